-- WRITTEN BY this work's own program (wip/tools/xprint.py). Not trusted: Lean checks it.
import Derived.Test.YtlapjnaaihpeeaaDoorXPl0
import Derived.Test.YtlapjnaaihpeeaaDoorXPl1
import Derived.Test.YtlapjnaaihpeeaaDoorXPl6
import Derived.Test.YtlapjnaaihpeeaaDoorXPl8
import Derived.Test.YtlapjnaaihpeeaaDoorXPl9
namespace Go.Proofs.YtlapjnaaihpeeaaDoor.XPl
open Go.RowKit Go.Proofs.YtlapjnaaihpeeaaDoorW.PrintWords Go.Proofs.YtlapjnaaihpeeaaDoorW.PrintLast Go.Proofs.YtlapjnaaihpeeaaDoorW.PrintMore
attribute [local go_sem] max2_int min2_int max_two min_two max_three min_three max_four min_four   -- for this text's walks alone
set_option linter.unusedVariables false
set_option linter.unusedSimpArgs false

attribute [local go_sem high] eqA23
/-! ### gambrelref22_Of: function 9 -/
set_option maxHeartbeats 8000000 in
set_option maxRecDepth 100000 in
theorem gambrelref22_Of.calls_2 (k : Nat) (a0 : ByteArray) (a1_0 : Int) (a1_1 : Int) (a1_2 : Int) (A2 : Option Addr) (c2 : Nat) (l2 : List Int) (a3_0 : Int) (a3_1 : Int) (a3_2 : Int) (r1 : Bool) (r2 : Bool) (r3 : List ByteArray) (r4 : List ByteArray) (r5 : Int) (w : World) (hr2 : Kd.C (Kd.int .i64) w A2 l2.length l2) (hc2 : l2.length ≤ c2) (hx_ : Aside0 (¬ (a1_1 = a3_1))) (h : gambrelref22_Of.f k a0 a1_0 a1_1 a1_2 l2 a3_0 a3_1 a3_2 = some (r1, r2, r3, r4, r5)) :
  Calls Tryd.prog 9 #[.string a0, .agg #[.int .i64 a1_0, .int .i64 a1_1, .int .i64 a1_2], .slice A2 l2.length c2, .agg #[.int .i64 a3_0, .int .i64 a3_1, .int .i64 a3_2]] w fun e w' => ∃ v2_ v3_ : Value, e = .returned (.tuple #[.agg #[.bool r1, .bool r2, v2_, v3_], .int .i64 r5]) ∧ Kd.R Kd.string 9 w' w.heap.size (fun k_ => some k_ ≠ (v3_ : Value).ownBlock) v2_ r3 ∧ Kd.R Kd.string 9 w' w.heap.size (fun k_ => some k_ ≠ (v2_ : Value).ownBlock) v3_ r4 ∧ Below w.heap.size w w' := by
 have hu23 := Tryd.underlying23
 have hu34 := Tryd.underlying34
 have hu60 := Tryd.underlying60
 have HR2 := Aside0.mk hr2
 have HC2 := Aside0.mk hc2
 clear hr2 hc2
 have HB := Aside0.mk (Below.refl w.heap.size w)
 have H : ((gambrelref15_May.f k a0).bind fun t218 => (if t218 = true then ((gambrelref09_May.f a1_0 a1_1 a1_2).bind fun t219 => (if t219 = true then ((gambrelref09_May.f a3_0 a3_1 a3_2).bind fun t220 => (if t220 = true then (gambrelref22_Of.j0 k a0 l2 ((l2.length : Int) != (wrap64 (a1_1 + a1_2))) a1_0 a1_1 a1_2 a3_0 a3_1 a3_2) else (gambrelref22_Of.j0 k a0 l2 true a1_0 a1_1 a1_2 a3_0 a3_1 a3_2))) else (gambrelref22_Of.j0 k a0 l2 true a1_0 a1_1 a1_2 a3_0 a3_1 a3_2))) else (gambrelref22_Of.j0 k a0 l2 true a1_0 a1_1 a1_2 a3_0 a3_1 a3_2))) = some (r1, r2, r3, r4, r5) := h
 clear h
 have HC5 := Aside0.mk H
 clear H
 go_enter Tryd.func9, Tryd.ntmps9
 go_upto_region 1 with (first | ((with_reducible refine gate_dst (N := 5) rfl ?_); (try (refine gate_guard (by rfl) ?_; dsimp only)); refine box_event ?hg (N := 5) ?hd (cs := #[.int .i64 a1_0, .int .i64 a1_1, .int .i64 a1_2]) (t := 23) ?hr ?_; (case hd => rfl); (case hg => rfl); (case hr => first | (go_simp; done) | (go_simp; rfl)); intro gb215 hg w6 hbox hb; have n0_ := Aside0.mk (below_step (by repeat (first | (with_reducible first | exact HB.out | apply below_alloc | apply pw_below_drewN | apply below_drew1) | exact HB.out)) hb); have n1_ := Aside0.mk (hbox); have n2_ := Aside0.mk ((by rw [hg]; exact (below_size (by repeat (first | (with_reducible first | exact HB.out | apply below_alloc | apply pw_below_drewN | apply below_drew1) | exact HB.out))) : w.heap.size ≤ gb215)); have n3_ := Aside0.mk ((by rw [hg]; exact (below_size (by repeat (first | (with_reducible first | exact HB.out | apply below_alloc | apply pw_below_drewN | apply below_drew1) | exact HB.out))) : w.heap.size ≤ gb215)); clear HB; have HB := n0_; have BK215 := n1_; have GW215 := n2_; have GE215 := n3_; clear n0_ n1_ n2_ n3_; clear hb hbox hg) | ((with_reducible refine gate_dst (N := 7) rfl ?_); (try (refine gate_guard (by rfl) ?_; dsimp only)); refine box_event ?hg (N := 7) ?hd (cs := #[.int .i64 a3_0, .int .i64 a3_1, .int .i64 a3_2]) (t := 23) ?hr ?_; (case hd => rfl); (case hg => rfl); (case hr => first | (go_simp; done) | (go_simp; rfl)); intro gb216 hg w7 hbox hb; have n0_ := Aside0.mk (blk_below (g := gb215) (o := .cells #[.int .i64 a1_0, .int .i64 a1_1, .int .i64 a1_2] 23 (0, 0)) (by (with_reducible repeat (first | refine blk_drewN ?_ _ | refine blk_drew ?_ | refine blk_alloc ?_ _)); exact BK215.out) hb); have n1_ := Aside0.mk (below_step (by repeat (first | (with_reducible first | exact HB.out | apply below_alloc | apply pw_below_drewN | apply below_drew1 | refine below_set ?_ GE215.out) | exact HB.out)) hb); have n2_ := Aside0.mk (hbox); have n3_ := Aside0.mk ((by rw [hg]; exact (below_size (by repeat (first | (with_reducible first | exact HB.out | apply below_alloc | apply pw_below_drewN | apply below_drew1 | refine below_set ?_ GE215.out) | exact HB.out))) : w.heap.size ≤ gb216)); have n4_ := Aside0.mk ((by rw [hg]; exact (below_size (by repeat (first | (with_reducible first | exact HB.out | apply below_alloc | apply pw_below_drewN | apply below_drew1 | refine below_set ?_ GE215.out) | exact HB.out))) : w.heap.size ≤ gb216)); have n5_ := Aside0.mk ((by rw [hg]; exact Nat.ne_of_lt (blk_lt (g := gb215) (o := .cells #[.int .i64 a1_0, .int .i64 a1_1, .int .i64 a1_2] 23 (0, 0)) (by (with_reducible repeat (first | refine blk_drewN ?_ _ | refine blk_drew ?_ | refine blk_alloc ?_ _)); exact BK215.out)) : gb215 ≠ gb216)); have n6_ := Aside0.mk ((by rw [hg]; exact Nat.ne_of_gt (blk_lt (g := gb215) (o := .cells #[.int .i64 a1_0, .int .i64 a1_1, .int .i64 a1_2] 23 (0, 0)) (by (with_reducible repeat (first | refine blk_drewN ?_ _ | refine blk_drew ?_ | refine blk_alloc ?_ _)); exact BK215.out)) : gb216 ≠ gb215)); clear BK215; clear HB; have BK215 := n0_; have HB := n1_; have BK216 := n2_; have GW216 := n3_; have GE216 := n4_; have NB215_216 := n5_; have NB216_215 := n6_; clear n0_ n1_ n2_ n3_ n4_ n5_ n6_; clear hb hbox hg) | ((with_reducible refine gate_dst (N := 8) rfl ?_); (try (refine gate_guard (by rfl) ?_; dsimp only)); refine box_event ?hg (N := 8) ?hd (cs := #[.bool false, .bool false, .slice none 0 0, .slice none 0 0]) (t := 34) ?hr ?_; (case hd => rfl); (case hg => rfl); (case hr => first | (go_simp; done) | (go_simp; rfl)); intro gb217 hg w8 hbox hb; have n0_ := Aside0.mk (blk_below (g := gb215) (o := .cells #[.int .i64 a1_0, .int .i64 a1_1, .int .i64 a1_2] 23 (0, 0)) (by (with_reducible repeat (first | refine blk_drewN ?_ _ | refine blk_drew ?_ | refine blk_alloc ?_ _)); exact BK215.out) hb); have n1_ := Aside0.mk (blk_below (g := gb216) (o := .cells #[.int .i64 a3_0, .int .i64 a3_1, .int .i64 a3_2] 23 (0, 0)) (by (with_reducible repeat (first | refine blk_drewN ?_ _ | refine blk_drew ?_ | refine blk_alloc ?_ _)); exact BK216.out) hb); have n2_ := Aside0.mk (below_step (by repeat (first | (with_reducible first | exact HB.out | apply below_alloc | apply pw_below_drewN | apply below_drew1 | refine below_set ?_ GE215.out | refine below_set ?_ GE216.out) | exact HB.out)) hb); have n3_ := Aside0.mk (hbox); have n4_ := Aside0.mk ((by rw [hg]; exact (below_size (by repeat (first | (with_reducible first | exact HB.out | apply below_alloc | apply pw_below_drewN | apply below_drew1 | refine below_set ?_ GE215.out | refine below_set ?_ GE216.out) | exact HB.out))) : w.heap.size ≤ gb217)); have n5_ := Aside0.mk ((by rw [hg]; exact (below_size (by repeat (first | (with_reducible first | exact HB.out | apply below_alloc | apply pw_below_drewN | apply below_drew1 | refine below_set ?_ GE215.out | refine below_set ?_ GE216.out) | exact HB.out))) : w.heap.size ≤ gb217)); have n6_ := Aside0.mk ((by rw [hg]; exact Nat.ne_of_lt (blk_lt (g := gb215) (o := .cells #[.int .i64 a1_0, .int .i64 a1_1, .int .i64 a1_2] 23 (0, 0)) (by (with_reducible repeat (first | refine blk_drewN ?_ _ | refine blk_drew ?_ | refine blk_alloc ?_ _)); exact BK215.out)) : gb215 ≠ gb217)); have n7_ := Aside0.mk ((by rw [hg]; exact Nat.ne_of_gt (blk_lt (g := gb215) (o := .cells #[.int .i64 a1_0, .int .i64 a1_1, .int .i64 a1_2] 23 (0, 0)) (by (with_reducible repeat (first | refine blk_drewN ?_ _ | refine blk_drew ?_ | refine blk_alloc ?_ _)); exact BK215.out)) : gb217 ≠ gb215)); have n8_ := Aside0.mk ((by rw [hg]; exact Nat.ne_of_lt (blk_lt (g := gb216) (o := .cells #[.int .i64 a3_0, .int .i64 a3_1, .int .i64 a3_2] 23 (0, 0)) (by (with_reducible repeat (first | refine blk_drewN ?_ _ | refine blk_drew ?_ | refine blk_alloc ?_ _)); exact BK216.out)) : gb216 ≠ gb217)); have n9_ := Aside0.mk ((by rw [hg]; exact Nat.ne_of_gt (blk_lt (g := gb216) (o := .cells #[.int .i64 a3_0, .int .i64 a3_1, .int .i64 a3_2] 23 (0, 0)) (by (with_reducible repeat (first | refine blk_drewN ?_ _ | refine blk_drew ?_ | refine blk_alloc ?_ _)); exact BK216.out)) : gb217 ≠ gb216)); clear BK215; clear BK216; clear HB; have BK215 := n0_; have BK216 := n1_; have HB := n2_; have BK217 := n3_; have GW217 := n4_; have GE217 := n5_; have NB215_217 := n6_; have NB217_215 := n7_; have NB216_217 := n8_; have NB217_216 := n9_; clear n0_ n1_ n2_ n3_ n4_ n5_ n6_ n7_ n8_ n9_; clear hb hbox hg))
 (try simp only [Act.put, List.setIfInBounds_toArray, List.set_cons_zero, List.set_cons_succ])
 go_cut [44] (fun v44 wc => ∃ (kq : Nat) (x44_4 : Bool), v44 = .bool x44_4 ∧ Aside0 (gambrelref22_Of.j0 kq a0 l2 x44_4 a1_0 a1_1 a1_2 a3_0 a3_1 a3_2 = some (r1, r2, r3, r4, r5)) ∧ Aside0 (kq ≤ k) ∧ Aside0 (wc.heap[gb215]? = some (.cells #[.int .i64 a1_0, .int .i64 a1_1, .int .i64 a1_2] 23 (0, 0))) ∧ Aside0 (wc.heap[gb216]? = some (.cells #[.int .i64 a3_0, .int .i64 a3_1, .int .i64 a3_2] 23 (0, 0))) ∧ Aside0 (wc.heap[gb217]? = some (.cells #[.bool false, .bool false, (.slice none 0 0), (.slice none 0 0)] 34 (0, 0))) ∧ Aside0 (Below w.heap.size w wc))
 case first =>
  have H := HC5.out
  clear HC5
  replace H := Option.bind_eq_some_iff.mp H
  obtain ⟨t218, A90, H⟩ := H
  replace H : (if t218 = true then ((gambrelref09_May.f a1_0 a1_1 a1_2).bind fun t219 => (if t219 = true then ((gambrelref09_May.f a3_0 a3_1 a3_2).bind fun t220 => (if t220 = true then (gambrelref22_Of.j0 k a0 l2 ((l2.length : Int) != (wrap64 (a1_1 + a1_2))) a1_0 a1_1 a1_2 a3_0 a3_1 a3_2) else (gambrelref22_Of.j0 k a0 l2 true a1_0 a1_1 a1_2 a3_0 a3_1 a3_2))) else (gambrelref22_Of.j0 k a0 l2 true a1_0 a1_1 a1_2 a3_0 a3_1 a3_2))) else (gambrelref22_Of.j0 k a0 l2 true a1_0 a1_1 a1_2 a3_0 a3_1 a3_2)) = some (r1, r2, r3, r4, r5) := H
  have A9 := Aside0.mk A90
  clear A90
  by_cases c10 : t218 = true
  ·subst c10
   have H1 : ((gambrelref09_May.f a1_0 a1_1 a1_2).bind fun t219 => (if t219 = true then ((gambrelref09_May.f a3_0 a3_1 a3_2).bind fun t220 => (if t220 = true then (gambrelref22_Of.j0 k a0 l2 ((l2.length : Int) != (wrap64 (a1_1 + a1_2))) a1_0 a1_1 a1_2 a3_0 a3_1 a3_2) else (gambrelref22_Of.j0 k a0 l2 true a1_0 a1_1 a1_2 a3_0 a3_1 a3_2))) else (gambrelref22_Of.j0 k a0 l2 true a1_0 a1_1 a1_2 a3_0 a3_1 a3_2))) = some (r1, r2, r3, r4, r5) := by rw [if_pos rfl] at H; exact H
   clear H
   have H := H1
   clear H1
   replace H := Option.bind_eq_some_iff.mp H
   obtain ⟨t219, A110, H⟩ := H
   replace H : (if t219 = true then ((gambrelref09_May.f a3_0 a3_1 a3_2).bind fun t220 => (if t220 = true then (gambrelref22_Of.j0 k a0 l2 ((l2.length : Int) != (wrap64 (a1_1 + a1_2))) a1_0 a1_1 a1_2 a3_0 a3_1 a3_2) else (gambrelref22_Of.j0 k a0 l2 true a1_0 a1_1 a1_2 a3_0 a3_1 a3_2))) else (gambrelref22_Of.j0 k a0 l2 true a1_0 a1_1 a1_2 a3_0 a3_1 a3_2)) = some (r1, r2, r3, r4, r5) := H
   have A11 := Aside0.mk A110
   clear A110
   by_cases c12 : t219 = true
   ·subst c12
    have H1 : ((gambrelref09_May.f a3_0 a3_1 a3_2).bind fun t220 => (if t220 = true then (gambrelref22_Of.j0 k a0 l2 ((l2.length : Int) != (wrap64 (a1_1 + a1_2))) a1_0 a1_1 a1_2 a3_0 a3_1 a3_2) else (gambrelref22_Of.j0 k a0 l2 true a1_0 a1_1 a1_2 a3_0 a3_1 a3_2))) = some (r1, r2, r3, r4, r5) := by rw [if_pos rfl] at H; exact H
    clear H
    have H := H1
    clear H1
    replace H := Option.bind_eq_some_iff.mp H
    obtain ⟨t220, A130, H⟩ := H
    replace H : (if t220 = true then (gambrelref22_Of.j0 k a0 l2 ((l2.length : Int) != (wrap64 (a1_1 + a1_2))) a1_0 a1_1 a1_2 a3_0 a3_1 a3_2) else (gambrelref22_Of.j0 k a0 l2 true a1_0 a1_1 a1_2 a3_0 a3_1 a3_2)) = some (r1, r2, r3, r4, r5) := H
    have A13 := Aside0.mk A130
    clear A130
    by_cases c14 : t220 = true
    ·subst c14
     have H1 : (gambrelref22_Of.j0 k a0 l2 ((l2.length : Int) != (wrap64 (a1_1 + a1_2))) a1_0 a1_1 a1_2 a3_0 a3_1 a3_2) = some (r1, r2, r3, r4, r5) := by rw [if_pos rfl] at H; exact H
     clear H
     have H := H1
     clear H1
     have H' := Aside0.mk H
     clear H
     go_wp2_with (first | ((with_reducible refine gate_callee (f := 22) rfl ?_); refine goesL_ (some 23) rfl rfl Tryd.func22 (by kernel_rfl) rfl #[.string a0] rfl (by (try simp only [List.map_toArray, List.map_cons, List.map_nil]); first | done | rfl | (simp only [List.length_drop, List.length_take]; rfl)) ?_; (with_reducible refine (gambrelref15_May.calls k a0 true _ A9.out).mono ?_); rintro e w' ⟨rfl, ⟨nd, rfl⟩⟩; refine ⟨_, rfl, ?_⟩; have hnb15 := NB215_216.out; have hnc15 := NB216_215.out; have hnb16 := NB215_217.out; have hnc16 := NB217_215.out; have hcz17_0 : w8.cell? ⟨gb215, 0, none⟩ = some (.int .i64 a1_0) := (blk_cell BK215.out 0).trans rfl; have hcz17_1 : w8.cell? ⟨gb215, 1, none⟩ = some (.int .i64 a1_1) := (blk_cell BK215.out 1).trans rfl; have hcz17_2 : w8.cell? ⟨gb215, 2, none⟩ = some (.int .i64 a1_2) := (blk_cell BK215.out 2).trans rfl; have hfz17_0 := blk_frozen BK215.out 0; have hfz17_1 := blk_frozen BK215.out 1; have hfz17_2 := blk_frozen BK215.out 2) | (go_at_call 23; (with_reducible refine (gambrelref09_May.calls a1_0 a1_1 a1_2 true _ A11.out).mono ?_); rintro e w18 ⟨rfl, hb⟩; have n0_ := Aside0.mk (blk_below (g := gb215) (o := .cells #[.int .i64 a1_0, .int .i64 a1_1, .int .i64 a1_2] 23 (0, 0)) (by (with_reducible repeat (first | refine blk_drewN ?_ _ | refine blk_drew ?_ | refine blk_alloc ?_ _)); exact BK215.out) hb); have n1_ := Aside0.mk (blk_below (g := gb216) (o := .cells #[.int .i64 a3_0, .int .i64 a3_1, .int .i64 a3_2] 23 (0, 0)) (by (with_reducible repeat (first | refine blk_drewN ?_ _ | refine blk_drew ?_ | refine blk_alloc ?_ _)); exact BK216.out) hb); have n2_ := Aside0.mk (blk_below (g := gb217) (o := .cells #[.bool false, .bool false, .slice none 0 0, .slice none 0 0] 34 (0, 0)) (by (with_reducible repeat (first | refine blk_drewN ?_ _ | refine blk_drew ?_ | refine blk_alloc ?_ _)); exact BK217.out) hb); have n3_ := Aside0.mk (below_step (by repeat (first | (with_reducible first | exact HB.out | apply below_alloc | apply pw_below_drewN | apply below_drew1 | refine below_set ?_ GE215.out | refine below_set ?_ GE216.out | refine below_set ?_ GE217.out) | exact HB.out)) hb); clear BK215; clear BK216; clear BK217; clear HB; have BK215 := n0_; have BK216 := n1_; have BK217 := n2_; have HB := n3_; clear n0_ n1_ n2_ n3_; (try clear hb); (try clear hb2); (try clear hk); (try clear hi); have hnb19 := NB216_217.out; have hnc19 := NB217_216.out; have hcz20_0 : w18.cell? ⟨gb216, 0, none⟩ = some (.int .i64 a3_0) := (blk_cell BK216.out 0).trans rfl; have hcz20_1 : w18.cell? ⟨gb216, 1, none⟩ = some (.int .i64 a3_1) := (blk_cell BK216.out 1).trans rfl; have hcz20_2 : w18.cell? ⟨gb216, 2, none⟩ = some (.int .i64 a3_2) := (blk_cell BK216.out 2).trans rfl; have hfz20_0 := blk_frozen BK216.out 0; have hfz20_1 := blk_frozen BK216.out 1; have hfz20_2 := blk_frozen BK216.out 2) | (go_at_call 23; (with_reducible refine (gambrelref09_May.calls a3_0 a3_1 a3_2 true _ A13.out).mono ?_); rintro e w21 ⟨rfl, hb⟩; have n0_ := Aside0.mk (blk_below (g := gb215) (o := .cells #[.int .i64 a1_0, .int .i64 a1_1, .int .i64 a1_2] 23 (0, 0)) (by (with_reducible repeat (first | refine blk_drewN ?_ _ | refine blk_drew ?_ | refine blk_alloc ?_ _)); exact BK215.out) hb); have n1_ := Aside0.mk (blk_below (g := gb216) (o := .cells #[.int .i64 a3_0, .int .i64 a3_1, .int .i64 a3_2] 23 (0, 0)) (by (with_reducible repeat (first | refine blk_drewN ?_ _ | refine blk_drew ?_ | refine blk_alloc ?_ _)); exact BK216.out) hb); have n2_ := Aside0.mk (blk_below (g := gb217) (o := .cells #[.bool false, .bool false, .slice none 0 0, .slice none 0 0] 34 (0, 0)) (by (with_reducible repeat (first | refine blk_drewN ?_ _ | refine blk_drew ?_ | refine blk_alloc ?_ _)); exact BK217.out) hb); have n3_ := Aside0.mk (below_step (by repeat (first | (with_reducible first | exact HB.out | apply below_alloc | apply pw_below_drewN | apply below_drew1 | refine below_set ?_ GE215.out | refine below_set ?_ GE216.out | refine below_set ?_ GE217.out) | exact HB.out)) hb); clear BK215; clear BK216; clear BK217; clear HB; have BK215 := n0_; have BK216 := n1_; have BK217 := n2_; have HB := n3_; clear n0_ n1_ n2_ n3_; (try clear hb); (try clear hb2); (try clear hk); (try clear hi); have hcz22_0 : w21.cell? ⟨gb215, 0, none⟩ = some (.int .i64 a1_0) := (blk_cell BK215.out 0).trans rfl; have hcz22_1 : w21.cell? ⟨gb215, 1, none⟩ = some (.int .i64 a1_1) := (blk_cell BK215.out 1).trans rfl; have hcz22_2 : w21.cell? ⟨gb215, 2, none⟩ = some (.int .i64 a1_2) := (blk_cell BK215.out 2).trans rfl; have hfz22_0 := blk_frozen BK215.out 0; have hfz22_1 := blk_frozen BK215.out 1; have hfz22_2 := blk_frozen BK215.out 2))
     go_meet
     case rel => exact ⟨_, (((l2.length : Int) != (wrap64 (a1_1 + a1_2)))), (by first | rfl | (simp; done) | (simp [*]; done)), H', ⟨by first | omega | exact Nat.le_refl _⟩, ⟨by (with_reducible repeat (first | refine blk_drewN ?_ _ | refine blk_drew ?_ | refine blk_alloc ?_ _)); exact BK215.out⟩, ⟨by (with_reducible repeat (first | refine blk_drewN ?_ _ | refine blk_drew ?_ | refine blk_alloc ?_ _)); exact BK216.out⟩, ⟨by (with_reducible repeat (first | refine blk_drewN ?_ _ | refine blk_drew ?_ | refine blk_alloc ?_ _)); exact BK217.out⟩, ⟨by repeat (first | (with_reducible first | exact HB.out | apply below_alloc | apply pw_below_drewN | apply below_drew1 | refine below_set ?_ GE215.out | refine below_set ?_ GE216.out | refine below_set ?_ GE217.out) | exact HB.out)⟩⟩
    ·replace c14 := Bool.eq_false_iff.mpr c14
     subst c14
     have H1 : (gambrelref22_Of.j0 k a0 l2 true a1_0 a1_1 a1_2 a3_0 a3_1 a3_2) = some (r1, r2, r3, r4, r5) := by rw [if_neg (show ¬ (false = true) by decide)] at H; exact H
     clear H
     have H := H1
     clear H1
     have H' := Aside0.mk H
     clear H
     go_wp2_with (first | ((with_reducible refine gate_callee (f := 22) rfl ?_); refine goesL_ (some 23) rfl rfl Tryd.func22 (by kernel_rfl) rfl #[.string a0] rfl (by (try simp only [List.map_toArray, List.map_cons, List.map_nil]); first | done | rfl | (simp only [List.length_drop, List.length_take]; rfl)) ?_; (with_reducible refine (gambrelref15_May.calls k a0 true _ A9.out).mono ?_); rintro e w' ⟨rfl, ⟨nd, rfl⟩⟩; refine ⟨_, rfl, ?_⟩; have hnb23 := NB215_216.out; have hnc23 := NB216_215.out; have hnb24 := NB215_217.out; have hnc24 := NB217_215.out; have hcz25_0 : w8.cell? ⟨gb215, 0, none⟩ = some (.int .i64 a1_0) := (blk_cell BK215.out 0).trans rfl; have hcz25_1 : w8.cell? ⟨gb215, 1, none⟩ = some (.int .i64 a1_1) := (blk_cell BK215.out 1).trans rfl; have hcz25_2 : w8.cell? ⟨gb215, 2, none⟩ = some (.int .i64 a1_2) := (blk_cell BK215.out 2).trans rfl; have hfz25_0 := blk_frozen BK215.out 0; have hfz25_1 := blk_frozen BK215.out 1; have hfz25_2 := blk_frozen BK215.out 2) | (go_at_call 23; (with_reducible refine (gambrelref09_May.calls a1_0 a1_1 a1_2 true _ A11.out).mono ?_); rintro e w26 ⟨rfl, hb⟩; have n0_ := Aside0.mk (blk_below (g := gb215) (o := .cells #[.int .i64 a1_0, .int .i64 a1_1, .int .i64 a1_2] 23 (0, 0)) (by (with_reducible repeat (first | refine blk_drewN ?_ _ | refine blk_drew ?_ | refine blk_alloc ?_ _)); exact BK215.out) hb); have n1_ := Aside0.mk (blk_below (g := gb216) (o := .cells #[.int .i64 a3_0, .int .i64 a3_1, .int .i64 a3_2] 23 (0, 0)) (by (with_reducible repeat (first | refine blk_drewN ?_ _ | refine blk_drew ?_ | refine blk_alloc ?_ _)); exact BK216.out) hb); have n2_ := Aside0.mk (blk_below (g := gb217) (o := .cells #[.bool false, .bool false, .slice none 0 0, .slice none 0 0] 34 (0, 0)) (by (with_reducible repeat (first | refine blk_drewN ?_ _ | refine blk_drew ?_ | refine blk_alloc ?_ _)); exact BK217.out) hb); have n3_ := Aside0.mk (below_step (by repeat (first | (with_reducible first | exact HB.out | apply below_alloc | apply pw_below_drewN | apply below_drew1 | refine below_set ?_ GE215.out | refine below_set ?_ GE216.out | refine below_set ?_ GE217.out) | exact HB.out)) hb); clear BK215; clear BK216; clear BK217; clear HB; have BK215 := n0_; have BK216 := n1_; have BK217 := n2_; have HB := n3_; clear n0_ n1_ n2_ n3_; (try clear hb); (try clear hb2); (try clear hk); (try clear hi); have hnb27 := NB216_217.out; have hnc27 := NB217_216.out; have hcz28_0 : w26.cell? ⟨gb216, 0, none⟩ = some (.int .i64 a3_0) := (blk_cell BK216.out 0).trans rfl; have hcz28_1 : w26.cell? ⟨gb216, 1, none⟩ = some (.int .i64 a3_1) := (blk_cell BK216.out 1).trans rfl; have hcz28_2 : w26.cell? ⟨gb216, 2, none⟩ = some (.int .i64 a3_2) := (blk_cell BK216.out 2).trans rfl; have hfz28_0 := blk_frozen BK216.out 0; have hfz28_1 := blk_frozen BK216.out 1; have hfz28_2 := blk_frozen BK216.out 2) | (go_at_call 23; (with_reducible refine (gambrelref09_May.calls a3_0 a3_1 a3_2 false _ A13.out).mono ?_); rintro e w29 ⟨rfl, hb⟩; have n0_ := Aside0.mk (blk_below (g := gb215) (o := .cells #[.int .i64 a1_0, .int .i64 a1_1, .int .i64 a1_2] 23 (0, 0)) (by (with_reducible repeat (first | refine blk_drewN ?_ _ | refine blk_drew ?_ | refine blk_alloc ?_ _)); exact BK215.out) hb); have n1_ := Aside0.mk (blk_below (g := gb216) (o := .cells #[.int .i64 a3_0, .int .i64 a3_1, .int .i64 a3_2] 23 (0, 0)) (by (with_reducible repeat (first | refine blk_drewN ?_ _ | refine blk_drew ?_ | refine blk_alloc ?_ _)); exact BK216.out) hb); have n2_ := Aside0.mk (blk_below (g := gb217) (o := .cells #[.bool false, .bool false, .slice none 0 0, .slice none 0 0] 34 (0, 0)) (by (with_reducible repeat (first | refine blk_drewN ?_ _ | refine blk_drew ?_ | refine blk_alloc ?_ _)); exact BK217.out) hb); have n3_ := Aside0.mk (below_step (by repeat (first | (with_reducible first | exact HB.out | apply below_alloc | apply pw_below_drewN | apply below_drew1 | refine below_set ?_ GE215.out | refine below_set ?_ GE216.out | refine below_set ?_ GE217.out) | exact HB.out)) hb); clear BK215; clear BK216; clear BK217; clear HB; have BK215 := n0_; have BK216 := n1_; have BK217 := n2_; have HB := n3_; clear n0_ n1_ n2_ n3_; (try clear hb); (try clear hb2); (try clear hk); (try clear hi)))
     go_meet
     case rel => exact ⟨_, (true), (by first | rfl | (simp; done) | (simp [*]; done)), H', ⟨by first | omega | exact Nat.le_refl _⟩, ⟨by (with_reducible repeat (first | refine blk_drewN ?_ _ | refine blk_drew ?_ | refine blk_alloc ?_ _)); exact BK215.out⟩, ⟨by (with_reducible repeat (first | refine blk_drewN ?_ _ | refine blk_drew ?_ | refine blk_alloc ?_ _)); exact BK216.out⟩, ⟨by (with_reducible repeat (first | refine blk_drewN ?_ _ | refine blk_drew ?_ | refine blk_alloc ?_ _)); exact BK217.out⟩, ⟨by repeat (first | (with_reducible first | exact HB.out | apply below_alloc | apply pw_below_drewN | apply below_drew1 | refine below_set ?_ GE215.out | refine below_set ?_ GE216.out | refine below_set ?_ GE217.out) | exact HB.out)⟩⟩
   ·replace c12 := Bool.eq_false_iff.mpr c12
    subst c12
    have H1 : (gambrelref22_Of.j0 k a0 l2 true a1_0 a1_1 a1_2 a3_0 a3_1 a3_2) = some (r1, r2, r3, r4, r5) := by rw [if_neg (show ¬ (false = true) by decide)] at H; exact H
    clear H
    have H := H1
    clear H1
    have H' := Aside0.mk H
    clear H
    go_wp2_with (first | ((with_reducible refine gate_callee (f := 22) rfl ?_); refine goesL_ (some 23) rfl rfl Tryd.func22 (by kernel_rfl) rfl #[.string a0] rfl (by (try simp only [List.map_toArray, List.map_cons, List.map_nil]); first | done | rfl | (simp only [List.length_drop, List.length_take]; rfl)) ?_; (with_reducible refine (gambrelref15_May.calls k a0 true _ A9.out).mono ?_); rintro e w' ⟨rfl, ⟨nd, rfl⟩⟩; refine ⟨_, rfl, ?_⟩; have hnb30 := NB215_216.out; have hnc30 := NB216_215.out; have hnb31 := NB215_217.out; have hnc31 := NB217_215.out; have hcz32_0 : w8.cell? ⟨gb215, 0, none⟩ = some (.int .i64 a1_0) := (blk_cell BK215.out 0).trans rfl; have hcz32_1 : w8.cell? ⟨gb215, 1, none⟩ = some (.int .i64 a1_1) := (blk_cell BK215.out 1).trans rfl; have hcz32_2 : w8.cell? ⟨gb215, 2, none⟩ = some (.int .i64 a1_2) := (blk_cell BK215.out 2).trans rfl; have hfz32_0 := blk_frozen BK215.out 0; have hfz32_1 := blk_frozen BK215.out 1; have hfz32_2 := blk_frozen BK215.out 2) | (go_at_call 23; (with_reducible refine (gambrelref09_May.calls a1_0 a1_1 a1_2 false _ A11.out).mono ?_); rintro e w33 ⟨rfl, hb⟩; have n0_ := Aside0.mk (blk_below (g := gb215) (o := .cells #[.int .i64 a1_0, .int .i64 a1_1, .int .i64 a1_2] 23 (0, 0)) (by (with_reducible repeat (first | refine blk_drewN ?_ _ | refine blk_drew ?_ | refine blk_alloc ?_ _)); exact BK215.out) hb); have n1_ := Aside0.mk (blk_below (g := gb216) (o := .cells #[.int .i64 a3_0, .int .i64 a3_1, .int .i64 a3_2] 23 (0, 0)) (by (with_reducible repeat (first | refine blk_drewN ?_ _ | refine blk_drew ?_ | refine blk_alloc ?_ _)); exact BK216.out) hb); have n2_ := Aside0.mk (blk_below (g := gb217) (o := .cells #[.bool false, .bool false, .slice none 0 0, .slice none 0 0] 34 (0, 0)) (by (with_reducible repeat (first | refine blk_drewN ?_ _ | refine blk_drew ?_ | refine blk_alloc ?_ _)); exact BK217.out) hb); have n3_ := Aside0.mk (below_step (by repeat (first | (with_reducible first | exact HB.out | apply below_alloc | apply pw_below_drewN | apply below_drew1 | refine below_set ?_ GE215.out | refine below_set ?_ GE216.out | refine below_set ?_ GE217.out) | exact HB.out)) hb); clear BK215; clear BK216; clear BK217; clear HB; have BK215 := n0_; have BK216 := n1_; have BK217 := n2_; have HB := n3_; clear n0_ n1_ n2_ n3_; (try clear hb); (try clear hb2); (try clear hk); (try clear hi)))
    go_meet
    case rel => exact ⟨_, (true), (by first | rfl | (simp; done) | (simp [*]; done)), H', ⟨by first | omega | exact Nat.le_refl _⟩, ⟨by (with_reducible repeat (first | refine blk_drewN ?_ _ | refine blk_drew ?_ | refine blk_alloc ?_ _)); exact BK215.out⟩, ⟨by (with_reducible repeat (first | refine blk_drewN ?_ _ | refine blk_drew ?_ | refine blk_alloc ?_ _)); exact BK216.out⟩, ⟨by (with_reducible repeat (first | refine blk_drewN ?_ _ | refine blk_drew ?_ | refine blk_alloc ?_ _)); exact BK217.out⟩, ⟨by repeat (first | (with_reducible first | exact HB.out | apply below_alloc | apply pw_below_drewN | apply below_drew1 | refine below_set ?_ GE215.out | refine below_set ?_ GE216.out | refine below_set ?_ GE217.out) | exact HB.out)⟩⟩
  ·replace c10 := Bool.eq_false_iff.mpr c10
   subst c10
   have H1 : (gambrelref22_Of.j0 k a0 l2 true a1_0 a1_1 a1_2 a3_0 a3_1 a3_2) = some (r1, r2, r3, r4, r5) := by rw [if_neg (show ¬ (false = true) by decide)] at H; exact H
   clear H
   have H := H1
   clear H1
   have H' := Aside0.mk H
   clear H
   go_wp2_with (first | ((with_reducible refine gate_callee (f := 22) rfl ?_); refine goesL_ (some 23) rfl rfl Tryd.func22 (by kernel_rfl) rfl #[.string a0] rfl (by (try simp only [List.map_toArray, List.map_cons, List.map_nil]); first | done | rfl | (simp only [List.length_drop, List.length_take]; rfl)) ?_; (with_reducible refine (gambrelref15_May.calls k a0 false _ A9.out).mono ?_); rintro e w' ⟨rfl, ⟨nd, rfl⟩⟩; refine ⟨_, rfl, ?_⟩))
   go_meet
   case rel => exact ⟨_, (true), (by first | rfl | (simp; done) | (simp [*]; done)), H', ⟨by first | omega | exact Nat.le_refl _⟩, ⟨by (with_reducible repeat (first | refine blk_drewN ?_ _ | refine blk_drew ?_ | refine blk_alloc ?_ _)); exact BK215.out⟩, ⟨by (with_reducible repeat (first | refine blk_drewN ?_ _ | refine blk_drew ?_ | refine blk_alloc ?_ _)); exact BK216.out⟩, ⟨by (with_reducible repeat (first | refine blk_drewN ?_ _ | refine blk_drew ?_ | refine blk_alloc ?_ _)); exact BK217.out⟩, ⟨by repeat (first | (with_reducible first | exact HB.out | apply below_alloc | apply pw_below_drewN | apply below_drew1 | refine below_set ?_ GE215.out | refine below_set ?_ GE216.out | refine below_set ?_ GE217.out) | exact HB.out)⟩⟩
 case rest =>
  clear HC5
  try clear c1
  try clear c2
  try clear p2
  try clear c3
  try clear p6
  try clear c9
  try clear c10
  try clear c12
  try clear c14
  try clear c15
  try clear c16
  try clear c19
  try clear c22
  try clear c23
  try clear c24
  try clear c27
  try clear c30
  try clear c31
  try clear hcz17_0
  try clear hcz17_1
  try clear hcz17_2
  try clear hcz20_0
  try clear hcz20_1
  try clear hcz20_2
  try clear hcz22_0
  try clear hcz22_1
  try clear hcz22_2
  try clear hcz25_0
  try clear hcz25_1
  try clear hcz25_2
  try clear hcz28_0
  try clear hcz28_1
  try clear hcz28_2
  try clear hcz32_0
  try clear hcz32_1
  try clear hcz32_2
  try clear hfz17_0
  try clear hfz17_1
  try clear hfz17_2
  try clear hfz20_0
  try clear hfz20_1
  try clear hfz20_2
  try clear hfz22_0
  try clear hfz22_1
  try clear hfz22_2
  try clear hfz25_0
  try clear hfz25_1
  try clear hfz25_2
  try clear hfz28_0
  try clear hfz28_1
  try clear hfz28_2
  try clear hfz32_0
  try clear hfz32_1
  try clear hfz32_2
  obtain ⟨kq, x44_4, rfl, HA, HJ4, BK215, BK216, BK217, HB⟩ := hcut
  cases kq with
  | zero => exact absurd HA.out (by simp [gambrelref22_Of.j0])
  | succ kj4 =>
   have H := HA.out
   clear HA
   simp only [gambrelref22_Of.j0] at H
   by_cases c34 : x44_4 = true
   ·subst c34
    have H1 : (some (false, false, ([] : List ByteArray), ([] : List ByteArray), 1)) = some (r1, r2, r3, r4, r5) := by rw [if_pos rfl] at H; exact H
    clear H
    have H := H1
    clear H1
    simp only [Option.some.injEq, Prod.mk.injEq] at H
    obtain ⟨rfl, rfl, rfl, rfl, rfl⟩ := H
    have hnb35 := NB217_215.out
    have hnc35 := NB215_217.out
    have hnb36 := NB217_216.out
    have hnc36 := NB216_217.out
    have hcz37_0 : wc.cell? ⟨gb217, 0, none⟩ = some (.bool false) := (blk_cell BK217.out 0).trans rfl
    have hcz37_1 : wc.cell? ⟨gb217, 1, none⟩ = some (.bool false) := (blk_cell BK217.out 1).trans rfl
    have hcz37_2 : wc.cell? ⟨gb217, 2, none⟩ = some (.slice none 0 0) := (blk_cell BK217.out 2).trans rfl
    have hcz37_3 : wc.cell? ⟨gb217, 3, none⟩ = some (.slice none 0 0) := (blk_cell BK217.out 3).trans rfl
    have hfz37_0 := blk_frozen BK217.out 0
    have hfz37_1 := blk_frozen BK217.out 1
    have hfz37_2 := blk_frozen BK217.out 2
    have hfz37_3 := blk_frozen BK217.out 3
    go_wp2
    refine bodyPost_ret (results_ct rfl _ _ gb217 34 #[.bool false, .bool false, .slice none 0 0, .slice none 0 0] (0, 0) _ rfl (by (with_reducible repeat (first | refine blk_drewN ?_ _ | refine blk_drew ?_ | refine blk_alloc ?_ _)); refine blk_put (cs := #[.bool false, .bool false, .slice none 0 0, .slice none 0 0]) ?_ 3 _ rfl; (with_reducible repeat (first | refine blk_drewN ?_ _ | refine blk_drew ?_ | refine blk_alloc ?_ _)); refine blk_put (cs := #[.bool false, .bool false, .slice none 0 0, .slice none 0 0]) ?_ 2 _ rfl; (with_reducible repeat (first | refine blk_drewN ?_ _ | refine blk_drew ?_ | refine blk_alloc ?_ _)); refine blk_put (cs := #[.bool false, .bool false, .slice none 0 0, .slice none 0 0]) ?_ 1 _ rfl; (with_reducible repeat (first | refine blk_drewN ?_ _ | refine blk_drew ?_ | refine blk_alloc ?_ _)); refine blk_put (cs := #[.bool false, .bool false, .slice none 0 0, .slice none 0 0]) ?_ 0 _ rfl; (with_reducible repeat (first | refine blk_drewN ?_ _ | refine blk_drew ?_ | refine blk_alloc ?_ _)); exact BK217.out) Tryd.underlying34 rfl (by kernel_rfl)) rfl ?_
    exact ⟨_, _, by first | rfl | (simp [errW_none, errW_some] <;> rfl) | (simp [*, errW_none, errW_some] <;> rfl), by first | exact Kd.R_nil _ _ _ _ _ | exact Kd.N_nil _ _ _ _ _ | exact Kd.V_nil _ _ _ _ _ | exact Kd.Q_nil _ _ _ _ _ | exact Kd.S_nil _ _ _ _ _, by first | exact Kd.R_nil _ _ _ _ _ | exact Kd.N_nil _ _ _ _ _ | exact Kd.V_nil _ _ _ _ _ | exact Kd.Q_nil _ _ _ _ _ | exact Kd.S_nil _ _ _ _ _, by repeat (first | (with_reducible first | exact HB.out | apply below_alloc | apply pw_below_drewN | apply below_drew1 | refine below_set ?_ GE215.out | refine below_set ?_ GE216.out | refine below_set ?_ GE217.out) | exact HB.out)⟩
   ·replace c34 := Bool.eq_false_iff.mpr c34
    subst c34
    have H1 : ((gambrelref09_Of.f a1_0).bind fun bt221 => ((gambrelref09_Of.f a3_0).bind fun bt228 => (if a1_1 = a3_1 then ((gambrelref15_Set.f kj4 a0 a1_0 a1_1 a1_2).bind fun bt236 => ((gambrelref15_Set.f kj4 a0 a3_0 a3_1 a3_2).bind fun bt240 => (gambrelref22_Of.l0 kj4 l2 bt236.1 bt240.1 0 (eqT23 a1_0 a3_0 a1_1 a3_1 a1_2 a3_2) (bt221.2.2.2.1 == bt228.2.2.2.1) ([] : List ByteArray)))) else ((gambrelref15_Set.f kj4 a0 a1_0 a1_1 a1_2).bind fun bt261 => ((gambrelref15_Set.f kj4 a0 a3_0 a3_1 a3_2).bind fun bt265 => (gambrelref22_Of.l0 kj4 l2 bt261.1 bt265.1 0 (eqT23 a1_0 a3_0 a1_1 a3_1 a1_2 a3_2) false ([] : List ByteArray))))))) = some (r1, r2, r3, r4, r5) := by rw [if_neg (show ¬ (false = true) by decide)] at H; exact H
    clear H
    have H := H1
    clear H1
    replace H := Option.bind_eq_some_iff.mp H
    obtain ⟨⟨t221, t222, t223, t224, t225, t226⟩, A380, H⟩ := H
    replace H : ((gambrelref09_Of.f a3_0).bind fun bt228 => (if a1_1 = a3_1 then ((gambrelref15_Set.f kj4 a0 a1_0 a1_1 a1_2).bind fun bt236 => ((gambrelref15_Set.f kj4 a0 a3_0 a3_1 a3_2).bind fun bt240 => (gambrelref22_Of.l0 kj4 l2 bt236.1 bt240.1 0 (eqT23 a1_0 a3_0 a1_1 a3_1 a1_2 a3_2) (t224 == bt228.2.2.2.1) ([] : List ByteArray)))) else ((gambrelref15_Set.f kj4 a0 a1_0 a1_1 a1_2).bind fun bt261 => ((gambrelref15_Set.f kj4 a0 a3_0 a3_1 a3_2).bind fun bt265 => (gambrelref22_Of.l0 kj4 l2 bt261.1 bt265.1 0 (eqT23 a1_0 a3_0 a1_1 a3_1 a1_2 a3_2) false ([] : List ByteArray)))))) = some (r1, r2, r3, r4, r5) := H
    have A38 := Aside0.mk A380
    clear A380
    replace H := Option.bind_eq_some_iff.mp H
    obtain ⟨⟨t228, t229, t230, t231, t232, t233⟩, A390, H⟩ := H
    replace H : (if a1_1 = a3_1 then ((gambrelref15_Set.f kj4 a0 a1_0 a1_1 a1_2).bind fun bt236 => ((gambrelref15_Set.f kj4 a0 a3_0 a3_1 a3_2).bind fun bt240 => (gambrelref22_Of.l0 kj4 l2 bt236.1 bt240.1 0 (eqT23 a1_0 a3_0 a1_1 a3_1 a1_2 a3_2) (t224 == t231) ([] : List ByteArray)))) else ((gambrelref15_Set.f kj4 a0 a1_0 a1_1 a1_2).bind fun bt261 => ((gambrelref15_Set.f kj4 a0 a3_0 a3_1 a3_2).bind fun bt265 => (gambrelref22_Of.l0 kj4 l2 bt261.1 bt265.1 0 (eqT23 a1_0 a3_0 a1_1 a3_1 a1_2 a3_2) false ([] : List ByteArray))))) = some (r1, r2, r3, r4, r5) := H
    have A39 := Aside0.mk A390
    clear A390
    by_cases c40 : a1_1 = a3_1
    ·exact absurd c40 hx_.out
    ·rw [if_neg c40] at H
     have c40b0 : (a1_1 == a3_1) = false := beq_eq_false_iff_ne.mpr c40
     have c40b1 : (a1_1 != a3_1) = true := bne_iff_ne.mpr c40
     replace H := Option.bind_eq_some_iff.mp H
     obtain ⟨⟨t261, t264⟩, A1230, H⟩ := H
     replace H : ((gambrelref15_Set.f kj4 a0 a3_0 a3_1 a3_2).bind fun bt265 => (gambrelref22_Of.l0 kj4 l2 t261 bt265.1 0 (eqT23 a1_0 a3_0 a1_1 a3_1 a1_2 a3_2) false ([] : List ByteArray))) = some (r1, r2, r3, r4, r5) := H
     have A123 := Aside0.mk A1230
     clear A1230
     replace H := Option.bind_eq_some_iff.mp H
     obtain ⟨⟨t265, t268⟩, A1240, H⟩ := H
     replace H : (gambrelref22_Of.l0 kj4 l2 t261 t265 0 (eqT23 a1_0 a3_0 a1_1 a3_1 a1_2 a3_2) false ([] : List ByteArray)) = some (r1, r2, r3, r4, r5) := H
     have A124 := Aside0.mk A1240
     clear A1240
     have H' := Aside0.mk H
     clear H
     have hnb125 := NB215_216.out
     have hnc125 := NB216_215.out
     have hnb126 := NB215_217.out
     have hnc126 := NB217_215.out
     have hcz127_0 : wc.cell? ⟨gb215, 0, none⟩ = some (.int .i64 a1_0) := (blk_cell BK215.out 0).trans rfl
     have hcz127_1 : wc.cell? ⟨gb215, 1, none⟩ = some (.int .i64 a1_1) := (blk_cell BK215.out 1).trans rfl
     have hcz127_2 : wc.cell? ⟨gb215, 2, none⟩ = some (.int .i64 a1_2) := (blk_cell BK215.out 2).trans rfl
     have hfz127_0 := blk_frozen BK215.out 0
     have hfz127_1 := blk_frozen BK215.out 1
     have hfz127_2 := blk_frozen BK215.out 2
     try go_wp2_with (first | ((with_reducible refine gate_callee (f := 24) rfl ?_); refine goesL_ (some 49) rfl rfl Tryd.func24 (by kernel_rfl) rfl #[.int .i64 a1_0] rfl (by (try simp only [List.map_toArray, List.map_cons, List.map_nil]); first | done | rfl | (simp only [List.length_drop, List.length_take]; rfl)) ?_; (with_reducible refine (gambrelref09_Of.calls a1_0 t221 t222 t223 t224 t225 t226 _ A38.out).mono ?_); rintro e w128 ⟨rfl, hb⟩; refine ⟨_, rfl, ?_⟩; have n0_ := Aside0.mk (blk_below (g := gb215) (o := .cells #[.int .i64 a1_0, .int .i64 a1_1, .int .i64 a1_2] 23 (0, 0)) (by (with_reducible repeat (first | refine blk_drewN ?_ _ | refine blk_drew ?_ | refine blk_alloc ?_ _)); exact BK215.out) hb); have n1_ := Aside0.mk (blk_below (g := gb216) (o := .cells #[.int .i64 a3_0, .int .i64 a3_1, .int .i64 a3_2] 23 (0, 0)) (by (with_reducible repeat (first | refine blk_drewN ?_ _ | refine blk_drew ?_ | refine blk_alloc ?_ _)); exact BK216.out) hb); have n2_ := Aside0.mk (blk_below (g := gb217) (o := .cells #[.bool false, .bool false, .slice none 0 0, .slice none 0 0] 34 (0, 0)) (by (with_reducible repeat (first | refine blk_drewN ?_ _ | refine blk_drew ?_ | refine blk_alloc ?_ _)); exact BK217.out) hb); have n3_ := Aside0.mk (below_step (by repeat (first | (with_reducible first | exact HB.out | apply below_alloc | apply pw_below_drewN | apply below_drew1 | refine below_set ?_ GE215.out | refine below_set ?_ GE216.out | refine below_set ?_ GE217.out) | exact HB.out)) hb); clear BK215; clear BK216; clear BK217; clear HB; have BK215 := n0_; have BK216 := n1_; have BK217 := n2_; have HB := n3_; clear n0_ n1_ n2_ n3_; (try clear hb); (try clear hb2); (try clear hk); (try clear hi)) | ((with_reducible refine gate_dst (N := 10) rfl ?_); (try (refine gate_guard (by rfl) ?_; dsimp only)); refine box_event ?hg (N := 10) ?hd (cs := #[.string (⟨#[]⟩ : ByteArray), .int .i64 0, .int .u32 0, .int .u8 0, .int .i64 0]) (t := 60) ?hr ?_; (case hd => rfl); (case hg => rfl); (case hr => first | (go_simp; done) | (go_simp; rfl)); intro gb227 hg w129 hbox hb; have n0_ := Aside0.mk (blk_below (g := gb215) (o := .cells #[.int .i64 a1_0, .int .i64 a1_1, .int .i64 a1_2] 23 (0, 0)) (by (with_reducible repeat (first | refine blk_drewN ?_ _ | refine blk_drew ?_ | refine blk_alloc ?_ _)); exact BK215.out) hb); have n1_ := Aside0.mk (blk_below (g := gb216) (o := .cells #[.int .i64 a3_0, .int .i64 a3_1, .int .i64 a3_2] 23 (0, 0)) (by (with_reducible repeat (first | refine blk_drewN ?_ _ | refine blk_drew ?_ | refine blk_alloc ?_ _)); exact BK216.out) hb); have n2_ := Aside0.mk (blk_below (g := gb217) (o := .cells #[.bool false, .bool false, .slice none 0 0, .slice none 0 0] 34 (0, 0)) (by (with_reducible repeat (first | refine blk_drewN ?_ _ | refine blk_drew ?_ | refine blk_alloc ?_ _)); exact BK217.out) hb); have n3_ := Aside0.mk (below_step (by repeat (first | (with_reducible first | exact HB.out | apply below_alloc | apply pw_below_drewN | apply below_drew1 | refine below_set ?_ GE215.out | refine below_set ?_ GE216.out | refine below_set ?_ GE217.out) | exact HB.out)) hb); have n4_ := Aside0.mk (hbox); have n5_ := Aside0.mk ((by rw [hg]; exact (below_size (by repeat (first | (with_reducible first | exact HB.out | apply below_alloc | apply pw_below_drewN | apply below_drew1 | refine below_set ?_ GE215.out | refine below_set ?_ GE216.out | refine below_set ?_ GE217.out) | exact HB.out))) : w.heap.size ≤ gb227)); have n6_ := Aside0.mk ((by rw [hg]; exact (below_size (by repeat (first | (with_reducible first | exact HB.out | apply below_alloc | apply pw_below_drewN | apply below_drew1 | refine below_set ?_ GE215.out | refine below_set ?_ GE216.out | refine below_set ?_ GE217.out) | exact HB.out))) : w.heap.size ≤ gb227)); have n7_ := Aside0.mk ((by rw [hg]; exact Nat.ne_of_lt (blk_lt (g := gb215) (o := .cells #[.int .i64 a1_0, .int .i64 a1_1, .int .i64 a1_2] 23 (0, 0)) (by (with_reducible repeat (first | refine blk_drewN ?_ _ | refine blk_drew ?_ | refine blk_alloc ?_ _)); exact BK215.out)) : gb215 ≠ gb227)); have n8_ := Aside0.mk ((by rw [hg]; exact Nat.ne_of_gt (blk_lt (g := gb215) (o := .cells #[.int .i64 a1_0, .int .i64 a1_1, .int .i64 a1_2] 23 (0, 0)) (by (with_reducible repeat (first | refine blk_drewN ?_ _ | refine blk_drew ?_ | refine blk_alloc ?_ _)); exact BK215.out)) : gb227 ≠ gb215)); have n9_ := Aside0.mk ((by rw [hg]; exact Nat.ne_of_lt (blk_lt (g := gb216) (o := .cells #[.int .i64 a3_0, .int .i64 a3_1, .int .i64 a3_2] 23 (0, 0)) (by (with_reducible repeat (first | refine blk_drewN ?_ _ | refine blk_drew ?_ | refine blk_alloc ?_ _)); exact BK216.out)) : gb216 ≠ gb227)); have n10_ := Aside0.mk ((by rw [hg]; exact Nat.ne_of_gt (blk_lt (g := gb216) (o := .cells #[.int .i64 a3_0, .int .i64 a3_1, .int .i64 a3_2] 23 (0, 0)) (by (with_reducible repeat (first | refine blk_drewN ?_ _ | refine blk_drew ?_ | refine blk_alloc ?_ _)); exact BK216.out)) : gb227 ≠ gb216)); have n11_ := Aside0.mk ((by rw [hg]; exact Nat.ne_of_lt (blk_lt (g := gb217) (o := .cells #[.bool false, .bool false, .slice none 0 0, .slice none 0 0] 34 (0, 0)) (by (with_reducible repeat (first | refine blk_drewN ?_ _ | refine blk_drew ?_ | refine blk_alloc ?_ _)); exact BK217.out)) : gb217 ≠ gb227)); have n12_ := Aside0.mk ((by rw [hg]; exact Nat.ne_of_gt (blk_lt (g := gb217) (o := .cells #[.bool false, .bool false, .slice none 0 0, .slice none 0 0] 34 (0, 0)) (by (with_reducible repeat (first | refine blk_drewN ?_ _ | refine blk_drew ?_ | refine blk_alloc ?_ _)); exact BK217.out)) : gb227 ≠ gb217)); clear BK215; clear BK216; clear BK217; clear HB; have BK215 := n0_; have BK216 := n1_; have BK217 := n2_; have HB := n3_; have BK227 := n4_; have GW227 := n5_; have GE227 := n6_; have NB215_227 := n7_; have NB227_215 := n8_; have NB216_227 := n9_; have NB227_216 := n10_; have NB217_227 := n11_; have NB227_217 := n12_; clear n0_ n1_ n2_ n3_ n4_ n5_ n6_ n7_ n8_ n9_ n10_ n11_ n12_; clear hb hbox hg; have hnb130 := NB227_215.out; have hnc130 := NB215_227.out; have hnb131 := NB227_216.out; have hnc131 := NB216_227.out; have hnb132 := NB227_217.out; have hnc132 := NB217_227.out; have hcz133_0 : w129.cell? ⟨gb227, 0, none⟩ = some (.string (⟨#[]⟩ : ByteArray)) := (blk_cell BK227.out 0).trans rfl; have hcz133_1 : w129.cell? ⟨gb227, 1, none⟩ = some (.int .i64 0) := (blk_cell BK227.out 1).trans rfl; have hcz133_2 : w129.cell? ⟨gb227, 2, none⟩ = some (.int .u32 0) := (blk_cell BK227.out 2).trans rfl; have hcz133_3 : w129.cell? ⟨gb227, 3, none⟩ = some (.int .u8 0) := (blk_cell BK227.out 3).trans rfl; have hcz133_4 : w129.cell? ⟨gb227, 4, none⟩ = some (.int .i64 0) := (blk_cell BK227.out 4).trans rfl; have hfz133_0 := blk_frozen BK227.out 0; have hfz133_1 := blk_frozen BK227.out 1; have hfz133_2 := blk_frozen BK227.out 2; have hfz133_3 := blk_frozen BK227.out 3; have hfz133_4 := blk_frozen BK227.out 4; have hnb134 := NB216_217.out; have hnc134 := NB217_216.out; have hcz135_0 : w129.cell? ⟨gb216, 0, none⟩ = some (.int .i64 a3_0) := (blk_cell BK216.out 0).trans rfl; have hcz135_1 : w129.cell? ⟨gb216, 1, none⟩ = some (.int .i64 a3_1) := (blk_cell BK216.out 1).trans rfl; have hcz135_2 : w129.cell? ⟨gb216, 2, none⟩ = some (.int .i64 a3_2) := (blk_cell BK216.out 2).trans rfl; have hfz135_0 := blk_frozen BK216.out 0; have hfz135_1 := blk_frozen BK216.out 1; have hfz135_2 := blk_frozen BK216.out 2) | ((with_reducible refine gate_callee (f := 24) rfl ?_); refine goesL_ (some 55) rfl rfl Tryd.func24 (by kernel_rfl) rfl #[.int .i64 a3_0] rfl (by (try simp only [List.map_toArray, List.map_cons, List.map_nil]); first | done | rfl | (simp only [List.length_drop, List.length_take]; rfl)) ?_; (with_reducible refine (gambrelref09_Of.calls a3_0 t228 t229 t230 t231 t232 t233 _ A39.out).mono ?_); rintro e w136 ⟨rfl, hb⟩; refine ⟨_, rfl, ?_⟩; have n0_ := Aside0.mk (blk_below (g := gb215) (o := .cells #[.int .i64 a1_0, .int .i64 a1_1, .int .i64 a1_2] 23 (0, 0)) (by (with_reducible repeat (first | refine blk_drewN ?_ _ | refine blk_drew ?_ | refine blk_alloc ?_ _)); refine blk_far ?_ NB215_227.out _; (with_reducible repeat (first | refine blk_drewN ?_ _ | refine blk_drew ?_ | refine blk_alloc ?_ _)); refine blk_far ?_ NB215_227.out _; (with_reducible repeat (first | refine blk_drewN ?_ _ | refine blk_drew ?_ | refine blk_alloc ?_ _)); refine blk_far ?_ NB215_227.out _; (with_reducible repeat (first | refine blk_drewN ?_ _ | refine blk_drew ?_ | refine blk_alloc ?_ _)); refine blk_far ?_ NB215_227.out _; (with_reducible repeat (first | refine blk_drewN ?_ _ | refine blk_drew ?_ | refine blk_alloc ?_ _)); refine blk_far ?_ NB215_227.out _; (with_reducible repeat (first | refine blk_drewN ?_ _ | refine blk_drew ?_ | refine blk_alloc ?_ _)); exact BK215.out) hb); have n1_ := Aside0.mk (blk_below (g := gb216) (o := .cells #[.int .i64 a3_0, .int .i64 a3_1, .int .i64 a3_2] 23 (0, 0)) (by (with_reducible repeat (first | refine blk_drewN ?_ _ | refine blk_drew ?_ | refine blk_alloc ?_ _)); refine blk_far ?_ NB216_227.out _; (with_reducible repeat (first | refine blk_drewN ?_ _ | refine blk_drew ?_ | refine blk_alloc ?_ _)); refine blk_far ?_ NB216_227.out _; (with_reducible repeat (first | refine blk_drewN ?_ _ | refine blk_drew ?_ | refine blk_alloc ?_ _)); refine blk_far ?_ NB216_227.out _; (with_reducible repeat (first | refine blk_drewN ?_ _ | refine blk_drew ?_ | refine blk_alloc ?_ _)); refine blk_far ?_ NB216_227.out _; (with_reducible repeat (first | refine blk_drewN ?_ _ | refine blk_drew ?_ | refine blk_alloc ?_ _)); refine blk_far ?_ NB216_227.out _; (with_reducible repeat (first | refine blk_drewN ?_ _ | refine blk_drew ?_ | refine blk_alloc ?_ _)); exact BK216.out) hb); have n2_ := Aside0.mk (blk_below (g := gb217) (o := .cells #[.bool false, .bool false, .slice none 0 0, .slice none 0 0] 34 (0, 0)) (by (with_reducible repeat (first | refine blk_drewN ?_ _ | refine blk_drew ?_ | refine blk_alloc ?_ _)); refine blk_far ?_ NB217_227.out _; (with_reducible repeat (first | refine blk_drewN ?_ _ | refine blk_drew ?_ | refine blk_alloc ?_ _)); refine blk_far ?_ NB217_227.out _; (with_reducible repeat (first | refine blk_drewN ?_ _ | refine blk_drew ?_ | refine blk_alloc ?_ _)); refine blk_far ?_ NB217_227.out _; (with_reducible repeat (first | refine blk_drewN ?_ _ | refine blk_drew ?_ | refine blk_alloc ?_ _)); refine blk_far ?_ NB217_227.out _; (with_reducible repeat (first | refine blk_drewN ?_ _ | refine blk_drew ?_ | refine blk_alloc ?_ _)); refine blk_far ?_ NB217_227.out _; (with_reducible repeat (first | refine blk_drewN ?_ _ | refine blk_drew ?_ | refine blk_alloc ?_ _)); exact BK217.out) hb); have n3_ := Aside0.mk (blk_below (g := gb227) (o := .cells #[.string t221, .int .i64 t222, .int .u32 t223, .int .u8 t224, .int .i64 t225] 60 (0, 0)) (by (with_reducible repeat (first | refine blk_drewN ?_ _ | refine blk_drew ?_ | refine blk_alloc ?_ _)); refine blk_put (cs := #[.string t221, .int .i64 t222, .int .u32 t223, .int .u8 t224, .int .i64 0]) ?_ 4 _ rfl; (with_reducible repeat (first | refine blk_drewN ?_ _ | refine blk_drew ?_ | refine blk_alloc ?_ _)); refine blk_put (cs := #[.string t221, .int .i64 t222, .int .u32 t223, .int .u8 0, .int .i64 0]) ?_ 3 _ rfl; (with_reducible repeat (first | refine blk_drewN ?_ _ | refine blk_drew ?_ | refine blk_alloc ?_ _)); refine blk_put (cs := #[.string t221, .int .i64 t222, .int .u32 0, .int .u8 0, .int .i64 0]) ?_ 2 _ rfl; (with_reducible repeat (first | refine blk_drewN ?_ _ | refine blk_drew ?_ | refine blk_alloc ?_ _)); refine blk_put (cs := #[.string t221, .int .i64 0, .int .u32 0, .int .u8 0, .int .i64 0]) ?_ 1 _ rfl; (with_reducible repeat (first | refine blk_drewN ?_ _ | refine blk_drew ?_ | refine blk_alloc ?_ _)); refine blk_put (cs := #[.string (⟨#[]⟩ : ByteArray), .int .i64 0, .int .u32 0, .int .u8 0, .int .i64 0]) ?_ 0 _ rfl; (with_reducible repeat (first | refine blk_drewN ?_ _ | refine blk_drew ?_ | refine blk_alloc ?_ _)); exact BK227.out) hb); have n4_ := Aside0.mk (below_step (by repeat (first | (with_reducible first | exact HB.out | apply below_alloc | apply pw_below_drewN | apply below_drew1 | refine below_set ?_ GE215.out | refine below_set ?_ GE216.out | refine below_set ?_ GE217.out | refine below_set ?_ GE227.out) | exact HB.out)) hb); clear BK215; clear BK216; clear BK217; clear BK227; clear HB; have BK215 := n0_; have BK216 := n1_; have BK217 := n2_; have BK227 := n3_; have HB := n4_; clear n0_ n1_ n2_ n3_ n4_; (try clear hb); (try clear hb2); (try clear hk); (try clear hi)) | ((with_reducible refine gate_dst (N := 12) rfl ?_); (try (refine gate_guard (by rfl) ?_; dsimp only)); refine box_event ?hg (N := 12) ?hd (cs := #[.string (⟨#[]⟩ : ByteArray), .int .i64 0, .int .u32 0, .int .u8 0, .int .i64 0]) (t := 60) ?hr ?_; (case hd => rfl); (case hg => rfl); (case hr => first | (go_simp; done) | (go_simp; rfl)); intro gb234 hg w137 hbox hb; have n0_ := Aside0.mk (blk_below (g := gb215) (o := .cells #[.int .i64 a1_0, .int .i64 a1_1, .int .i64 a1_2] 23 (0, 0)) (by (with_reducible repeat (first | refine blk_drewN ?_ _ | refine blk_drew ?_ | refine blk_alloc ?_ _)); exact BK215.out) hb); have n1_ := Aside0.mk (blk_below (g := gb216) (o := .cells #[.int .i64 a3_0, .int .i64 a3_1, .int .i64 a3_2] 23 (0, 0)) (by (with_reducible repeat (first | refine blk_drewN ?_ _ | refine blk_drew ?_ | refine blk_alloc ?_ _)); exact BK216.out) hb); have n2_ := Aside0.mk (blk_below (g := gb217) (o := .cells #[.bool false, .bool false, .slice none 0 0, .slice none 0 0] 34 (0, 0)) (by (with_reducible repeat (first | refine blk_drewN ?_ _ | refine blk_drew ?_ | refine blk_alloc ?_ _)); exact BK217.out) hb); have n3_ := Aside0.mk (blk_below (g := gb227) (o := .cells #[.string t221, .int .i64 t222, .int .u32 t223, .int .u8 t224, .int .i64 t225] 60 (0, 0)) (by (with_reducible repeat (first | refine blk_drewN ?_ _ | refine blk_drew ?_ | refine blk_alloc ?_ _)); exact BK227.out) hb); have n4_ := Aside0.mk (below_step (by repeat (first | (with_reducible first | exact HB.out | apply below_alloc | apply pw_below_drewN | apply below_drew1 | refine below_set ?_ GE215.out | refine below_set ?_ GE216.out | refine below_set ?_ GE217.out | refine below_set ?_ GE227.out) | exact HB.out)) hb); have n5_ := Aside0.mk (hbox); have n6_ := Aside0.mk ((by rw [hg]; exact (below_size (by repeat (first | (with_reducible first | exact HB.out | apply below_alloc | apply pw_below_drewN | apply below_drew1 | refine below_set ?_ GE215.out | refine below_set ?_ GE216.out | refine below_set ?_ GE217.out | refine below_set ?_ GE227.out) | exact HB.out))) : w.heap.size ≤ gb234)); have n7_ := Aside0.mk ((by rw [hg]; exact (below_size (by repeat (first | (with_reducible first | exact HB.out | apply below_alloc | apply pw_below_drewN | apply below_drew1 | refine below_set ?_ GE215.out | refine below_set ?_ GE216.out | refine below_set ?_ GE217.out | refine below_set ?_ GE227.out) | exact HB.out))) : w.heap.size ≤ gb234)); have n8_ := Aside0.mk ((by rw [hg]; exact Nat.ne_of_lt (blk_lt (g := gb215) (o := .cells #[.int .i64 a1_0, .int .i64 a1_1, .int .i64 a1_2] 23 (0, 0)) (by (with_reducible repeat (first | refine blk_drewN ?_ _ | refine blk_drew ?_ | refine blk_alloc ?_ _)); exact BK215.out)) : gb215 ≠ gb234)); have n9_ := Aside0.mk ((by rw [hg]; exact Nat.ne_of_gt (blk_lt (g := gb215) (o := .cells #[.int .i64 a1_0, .int .i64 a1_1, .int .i64 a1_2] 23 (0, 0)) (by (with_reducible repeat (first | refine blk_drewN ?_ _ | refine blk_drew ?_ | refine blk_alloc ?_ _)); exact BK215.out)) : gb234 ≠ gb215)); have n10_ := Aside0.mk ((by rw [hg]; exact Nat.ne_of_lt (blk_lt (g := gb216) (o := .cells #[.int .i64 a3_0, .int .i64 a3_1, .int .i64 a3_2] 23 (0, 0)) (by (with_reducible repeat (first | refine blk_drewN ?_ _ | refine blk_drew ?_ | refine blk_alloc ?_ _)); exact BK216.out)) : gb216 ≠ gb234)); have n11_ := Aside0.mk ((by rw [hg]; exact Nat.ne_of_gt (blk_lt (g := gb216) (o := .cells #[.int .i64 a3_0, .int .i64 a3_1, .int .i64 a3_2] 23 (0, 0)) (by (with_reducible repeat (first | refine blk_drewN ?_ _ | refine blk_drew ?_ | refine blk_alloc ?_ _)); exact BK216.out)) : gb234 ≠ gb216)); have n12_ := Aside0.mk ((by rw [hg]; exact Nat.ne_of_lt (blk_lt (g := gb217) (o := .cells #[.bool false, .bool false, .slice none 0 0, .slice none 0 0] 34 (0, 0)) (by (with_reducible repeat (first | refine blk_drewN ?_ _ | refine blk_drew ?_ | refine blk_alloc ?_ _)); exact BK217.out)) : gb217 ≠ gb234)); have n13_ := Aside0.mk ((by rw [hg]; exact Nat.ne_of_gt (blk_lt (g := gb217) (o := .cells #[.bool false, .bool false, .slice none 0 0, .slice none 0 0] 34 (0, 0)) (by (with_reducible repeat (first | refine blk_drewN ?_ _ | refine blk_drew ?_ | refine blk_alloc ?_ _)); exact BK217.out)) : gb234 ≠ gb217)); have n14_ := Aside0.mk ((by rw [hg]; exact Nat.ne_of_lt (blk_lt (g := gb227) (o := .cells #[.string t221, .int .i64 t222, .int .u32 t223, .int .u8 t224, .int .i64 t225] 60 (0, 0)) (by (with_reducible repeat (first | refine blk_drewN ?_ _ | refine blk_drew ?_ | refine blk_alloc ?_ _)); exact BK227.out)) : gb227 ≠ gb234)); have n15_ := Aside0.mk ((by rw [hg]; exact Nat.ne_of_gt (blk_lt (g := gb227) (o := .cells #[.string t221, .int .i64 t222, .int .u32 t223, .int .u8 t224, .int .i64 t225] 60 (0, 0)) (by (with_reducible repeat (first | refine blk_drewN ?_ _ | refine blk_drew ?_ | refine blk_alloc ?_ _)); exact BK227.out)) : gb234 ≠ gb227)); clear BK215; clear BK216; clear BK217; clear BK227; clear HB; have BK215 := n0_; have BK216 := n1_; have BK217 := n2_; have BK227 := n3_; have HB := n4_; have BK234 := n5_; have GW234 := n6_; have GE234 := n7_; have NB215_234 := n8_; have NB234_215 := n9_; have NB216_234 := n10_; have NB234_216 := n11_; have NB217_234 := n12_; have NB234_217 := n13_; have NB227_234 := n14_; have NB234_227 := n15_; clear n0_ n1_ n2_ n3_ n4_ n5_ n6_ n7_ n8_ n9_ n10_ n11_ n12_ n13_ n14_ n15_; clear hb hbox hg; have hnb138 := NB234_215.out; have hnc138 := NB215_234.out; have hnb139 := NB234_216.out; have hnc139 := NB216_234.out; have hnb140 := NB234_217.out; have hnc140 := NB217_234.out; have hnb141 := NB234_227.out; have hnc141 := NB227_234.out; have hcz142_0 : w137.cell? ⟨gb234, 0, none⟩ = some (.string (⟨#[]⟩ : ByteArray)) := (blk_cell BK234.out 0).trans rfl; have hcz142_1 : w137.cell? ⟨gb234, 1, none⟩ = some (.int .i64 0) := (blk_cell BK234.out 1).trans rfl; have hcz142_2 : w137.cell? ⟨gb234, 2, none⟩ = some (.int .u32 0) := (blk_cell BK234.out 2).trans rfl; have hcz142_3 : w137.cell? ⟨gb234, 3, none⟩ = some (.int .u8 0) := (blk_cell BK234.out 3).trans rfl; have hcz142_4 : w137.cell? ⟨gb234, 4, none⟩ = some (.int .i64 0) := (blk_cell BK234.out 4).trans rfl; have hfz142_0 := blk_frozen BK234.out 0; have hfz142_1 := blk_frozen BK234.out 1; have hfz142_2 := blk_frozen BK234.out 2; have hfz142_3 := blk_frozen BK234.out 3; have hfz142_4 := blk_frozen BK234.out 4))
     have n0_ : Aside0 ((((((w137.setCell ⟨gb234, 0, none⟩ (.string t228)).setCell ⟨gb234, 1, none⟩ (.int .i64 t229)).setCell ⟨gb234, 2, none⟩ (.int .u32 t230)).setCell ⟨gb234, 3, none⟩ (.int .u8 t231)).setCell ⟨gb234, 4, none⟩ (.int .i64 t232)).heap[gb215]? = some (.cells #[.int .i64 a1_0, .int .i64 a1_1, .int .i64 a1_2] 23 (0, 0))) := ⟨by (with_reducible repeat (first | refine blk_drewN ?_ _ | refine blk_drew ?_ | refine blk_alloc ?_ _)); refine blk_far ?_ NB215_234.out _; (with_reducible repeat (first | refine blk_drewN ?_ _ | refine blk_drew ?_ | refine blk_alloc ?_ _)); refine blk_far ?_ NB215_234.out _; (with_reducible repeat (first | refine blk_drewN ?_ _ | refine blk_drew ?_ | refine blk_alloc ?_ _)); refine blk_far ?_ NB215_234.out _; (with_reducible repeat (first | refine blk_drewN ?_ _ | refine blk_drew ?_ | refine blk_alloc ?_ _)); refine blk_far ?_ NB215_234.out _; (with_reducible repeat (first | refine blk_drewN ?_ _ | refine blk_drew ?_ | refine blk_alloc ?_ _)); refine blk_far ?_ NB215_234.out _; (with_reducible repeat (first | refine blk_drewN ?_ _ | refine blk_drew ?_ | refine blk_alloc ?_ _)); exact BK215.out⟩
     have n1_ : Aside0 ((((((w137.setCell ⟨gb234, 0, none⟩ (.string t228)).setCell ⟨gb234, 1, none⟩ (.int .i64 t229)).setCell ⟨gb234, 2, none⟩ (.int .u32 t230)).setCell ⟨gb234, 3, none⟩ (.int .u8 t231)).setCell ⟨gb234, 4, none⟩ (.int .i64 t232)).heap[gb216]? = some (.cells #[.int .i64 a3_0, .int .i64 a3_1, .int .i64 a3_2] 23 (0, 0))) := ⟨by (with_reducible repeat (first | refine blk_drewN ?_ _ | refine blk_drew ?_ | refine blk_alloc ?_ _)); refine blk_far ?_ NB216_234.out _; (with_reducible repeat (first | refine blk_drewN ?_ _ | refine blk_drew ?_ | refine blk_alloc ?_ _)); refine blk_far ?_ NB216_234.out _; (with_reducible repeat (first | refine blk_drewN ?_ _ | refine blk_drew ?_ | refine blk_alloc ?_ _)); refine blk_far ?_ NB216_234.out _; (with_reducible repeat (first | refine blk_drewN ?_ _ | refine blk_drew ?_ | refine blk_alloc ?_ _)); refine blk_far ?_ NB216_234.out _; (with_reducible repeat (first | refine blk_drewN ?_ _ | refine blk_drew ?_ | refine blk_alloc ?_ _)); refine blk_far ?_ NB216_234.out _; (with_reducible repeat (first | refine blk_drewN ?_ _ | refine blk_drew ?_ | refine blk_alloc ?_ _)); exact BK216.out⟩
     have n2_ : Aside0 ((((((w137.setCell ⟨gb234, 0, none⟩ (.string t228)).setCell ⟨gb234, 1, none⟩ (.int .i64 t229)).setCell ⟨gb234, 2, none⟩ (.int .u32 t230)).setCell ⟨gb234, 3, none⟩ (.int .u8 t231)).setCell ⟨gb234, 4, none⟩ (.int .i64 t232)).heap[gb217]? = some (.cells #[.bool false, .bool false, .slice none 0 0, .slice none 0 0] 34 (0, 0))) := ⟨by (with_reducible repeat (first | refine blk_drewN ?_ _ | refine blk_drew ?_ | refine blk_alloc ?_ _)); refine blk_far ?_ NB217_234.out _; (with_reducible repeat (first | refine blk_drewN ?_ _ | refine blk_drew ?_ | refine blk_alloc ?_ _)); refine blk_far ?_ NB217_234.out _; (with_reducible repeat (first | refine blk_drewN ?_ _ | refine blk_drew ?_ | refine blk_alloc ?_ _)); refine blk_far ?_ NB217_234.out _; (with_reducible repeat (first | refine blk_drewN ?_ _ | refine blk_drew ?_ | refine blk_alloc ?_ _)); refine blk_far ?_ NB217_234.out _; (with_reducible repeat (first | refine blk_drewN ?_ _ | refine blk_drew ?_ | refine blk_alloc ?_ _)); refine blk_far ?_ NB217_234.out _; (with_reducible repeat (first | refine blk_drewN ?_ _ | refine blk_drew ?_ | refine blk_alloc ?_ _)); exact BK217.out⟩
     have n3_ : Aside0 ((((((w137.setCell ⟨gb234, 0, none⟩ (.string t228)).setCell ⟨gb234, 1, none⟩ (.int .i64 t229)).setCell ⟨gb234, 2, none⟩ (.int .u32 t230)).setCell ⟨gb234, 3, none⟩ (.int .u8 t231)).setCell ⟨gb234, 4, none⟩ (.int .i64 t232)).heap[gb227]? = some (.cells #[.string t221, .int .i64 t222, .int .u32 t223, .int .u8 t224, .int .i64 t225] 60 (0, 0))) := ⟨by (with_reducible repeat (first | refine blk_drewN ?_ _ | refine blk_drew ?_ | refine blk_alloc ?_ _)); refine blk_far ?_ NB227_234.out _; (with_reducible repeat (first | refine blk_drewN ?_ _ | refine blk_drew ?_ | refine blk_alloc ?_ _)); refine blk_far ?_ NB227_234.out _; (with_reducible repeat (first | refine blk_drewN ?_ _ | refine blk_drew ?_ | refine blk_alloc ?_ _)); refine blk_far ?_ NB227_234.out _; (with_reducible repeat (first | refine blk_drewN ?_ _ | refine blk_drew ?_ | refine blk_alloc ?_ _)); refine blk_far ?_ NB227_234.out _; (with_reducible repeat (first | refine blk_drewN ?_ _ | refine blk_drew ?_ | refine blk_alloc ?_ _)); refine blk_far ?_ NB227_234.out _; (with_reducible repeat (first | refine blk_drewN ?_ _ | refine blk_drew ?_ | refine blk_alloc ?_ _)); exact BK227.out⟩
     have n4_ : Aside0 ((((((w137.setCell ⟨gb234, 0, none⟩ (.string t228)).setCell ⟨gb234, 1, none⟩ (.int .i64 t229)).setCell ⟨gb234, 2, none⟩ (.int .u32 t230)).setCell ⟨gb234, 3, none⟩ (.int .u8 t231)).setCell ⟨gb234, 4, none⟩ (.int .i64 t232)).heap[gb234]? = some (.cells #[.string t228, .int .i64 t229, .int .u32 t230, .int .u8 t231, .int .i64 t232] 60 (0, 0))) := ⟨by (with_reducible repeat (first | refine blk_drewN ?_ _ | refine blk_drew ?_ | refine blk_alloc ?_ _)); refine blk_put (cs := #[.string t228, .int .i64 t229, .int .u32 t230, .int .u8 t231, .int .i64 0]) ?_ 4 _ rfl; (with_reducible repeat (first | refine blk_drewN ?_ _ | refine blk_drew ?_ | refine blk_alloc ?_ _)); refine blk_put (cs := #[.string t228, .int .i64 t229, .int .u32 t230, .int .u8 0, .int .i64 0]) ?_ 3 _ rfl; (with_reducible repeat (first | refine blk_drewN ?_ _ | refine blk_drew ?_ | refine blk_alloc ?_ _)); refine blk_put (cs := #[.string t228, .int .i64 t229, .int .u32 0, .int .u8 0, .int .i64 0]) ?_ 2 _ rfl; (with_reducible repeat (first | refine blk_drewN ?_ _ | refine blk_drew ?_ | refine blk_alloc ?_ _)); refine blk_put (cs := #[.string t228, .int .i64 0, .int .u32 0, .int .u8 0, .int .i64 0]) ?_ 1 _ rfl; (with_reducible repeat (first | refine blk_drewN ?_ _ | refine blk_drew ?_ | refine blk_alloc ?_ _)); refine blk_put (cs := #[.string (⟨#[]⟩ : ByteArray), .int .i64 0, .int .u32 0, .int .u8 0, .int .i64 0]) ?_ 0 _ rfl; (with_reducible repeat (first | refine blk_drewN ?_ _ | refine blk_drew ?_ | refine blk_alloc ?_ _)); exact BK234.out⟩
     have n5_ : Aside0 (Below w.heap.size w (((((w137.setCell ⟨gb234, 0, none⟩ (.string t228)).setCell ⟨gb234, 1, none⟩ (.int .i64 t229)).setCell ⟨gb234, 2, none⟩ (.int .u32 t230)).setCell ⟨gb234, 3, none⟩ (.int .u8 t231)).setCell ⟨gb234, 4, none⟩ (.int .i64 t232))) := ⟨by repeat (first | (with_reducible first | exact HB.out | apply below_alloc | apply pw_below_drewN | apply below_drew1 | refine below_set ?_ GE215.out | refine below_set ?_ GE216.out | refine below_set ?_ GE217.out | refine below_set ?_ GE227.out | refine below_set ?_ GE234.out) | exact HB.out)⟩
     (try clear BK215)
     (try clear BK216)
     (try clear BK217)
     (try clear BK227)
     (try clear BK234)
     (try clear HB)
     generalize (((((w137.setCell ⟨gb234, 0, none⟩ (.string t228)).setCell ⟨gb234, 1, none⟩ (.int .i64 t229)).setCell ⟨gb234, 2, none⟩ (.int .u32 t230)).setCell ⟨gb234, 3, none⟩ (.int .u8 t231)).setCell ⟨gb234, 4, none⟩ (.int .i64 t232)) = w143 at n0_ n1_ n2_ n3_ n4_ n5_ ⊢
     have BK215 := n0_
     have BK216 := n1_
     have BK217 := n2_
     have BK227 := n3_
     have BK234 := n4_
     have HB := n5_
     clear n0_ n1_ n2_ n3_ n4_ n5_
     have n0_ := Aside0.mk (blk_drew BK215.out)
     have n1_ := Aside0.mk (blk_drew BK216.out)
     have n2_ := Aside0.mk (blk_drew BK217.out)
     have n3_ := Aside0.mk (blk_drew BK227.out)
     have n4_ := Aside0.mk (blk_drew BK234.out)
     have n5_ := Aside0.mk (below_drew1 HB.out)
     clear BK215
     clear BK216
     clear BK217
     clear BK227
     clear BK234
     clear HB
     have BK215 := n0_
     have BK216 := n1_
     have BK217 := n2_
     have BK227 := n3_
     have BK234 := n4_
     have HB := n5_
     clear n0_ n1_ n2_ n3_ n4_ n5_
     refine start_ (n := 18) (S := fun w' => w'.cell? ⟨gb215, 0, none⟩ = some (.int .i64 a1_0) ∧ w'.cell? ⟨gb215, 1, none⟩ = some (.int .i64 a1_1) ∧ w'.cell? ⟨gb215, 2, none⟩ = some (.int .i64 a1_2) ∧ w'.cell? ⟨gb216, 0, none⟩ = some (.int .i64 a3_0) ∧ w'.cell? ⟨gb216, 1, none⟩ = some (.int .i64 a3_1) ∧ w'.cell? ⟨gb216, 2, none⟩ = some (.int .i64 a3_2)) (ds := []) #[false, false, false, false, false, false, false, false, false, false, false, false, false, false, false, false, false, false] (by kernel_rfl) rfl rfl ⟨(blk_cell BK215.out 0).trans rfl, (blk_cell BK215.out 1).trans rfl, (blk_cell BK215.out 2).trans rfl, (blk_cell BK216.out 0).trans rfl, (blk_cell BK216.out 1).trans rfl, (blk_cell BK216.out 2).trans rfl⟩ (fun hHeld => ?_); refine with_tabW gambrelref22_Of.tab5 gambrelref22_Of.bits5 (fun HT_ HW_ => ?_)
     generalize w143.drew = w144 at BK215 BK216 BK217 BK227 BK234 HB hHeld ⊢
     refine pure_ (i := 3) (N := some 61) (v := ?_) (a' := ?_) #[false, false, false, true, false, false, false, false, false, false, false, false, false, false, false, false, false, false] rfl rfl (any_of HT_.out (by kernel_rfl)) (fun _ _ _ h => h) (Or.inl ⟨by rfl, ?_⟩) ?_ ?_
     rotate_left
     ·intro w'
      go_simp
      with_reducible rfl
     rotate_left
     ·simp only [Act.put, List.setIfInBounds_toArray, List.set_cons_zero, List.set_cons_succ, i64_w, i32_w]
      rfl
     refine pure_ (i := 5) (N := some 63) (v := ?_) (a' := ?_) #[false, false, false, true, false, true, false, false, false, false, false, false, false, false, false, false, false, false] rfl rfl (any_of HT_.out (by kernel_rfl)) (fun _ _ _ h => h) (Or.inl ⟨by rfl, ?_⟩) ?_ ?_
     rotate_left
     ·intro w'
      go_simp
      with_reducible rfl
     rotate_left
     ·simp only [Act.put, List.setIfInBounds_toArray, List.set_cons_zero, List.set_cons_succ, i64_w, i32_w]
      rfl
     refine take_ (i := 0) (N := some 58) (v := ?_) (a' := ?_) #[true, false, false, true, false, true, false, false, false, false, false, false, false, false, false, false, false, false] rfl rfl (take_ofW HT_.out HW_.out (by kernel_rfl)) (fun _ _ _ h => h) (Or.inl ⟨by rfl, ?_⟩) hHeld ?_ ?_
     rotate_left
     ·rintro w' ⟨s0, s1, s2, s3, s4, s5⟩
      go_simp
      with_reducible rfl
     rotate_left
     ·simp only [Act.put, List.setIfInBounds_toArray, List.set_cons_zero, List.set_cons_succ, i64_w, i32_w]
      rfl
     refine take_ (i := 1) (N := some 59) (v := ?_) (a' := ?_) #[true, true, false, true, false, true, false, false, false, false, false, false, false, false, false, false, false, false] rfl rfl (take_ofW HT_.out HW_.out (by kernel_rfl)) (fun _ _ _ h => h) (Or.inl ⟨by rfl, ?_⟩) hHeld ?_ ?_
     rotate_left
     ·rintro w' ⟨s0, s1, s2, s3, s4, s5⟩
      go_simp
      with_reducible rfl
     rotate_left
     ·simp only [Act.put, List.setIfInBounds_toArray, List.set_cons_zero, List.set_cons_succ, i64_w, i32_w]
      rfl
     refine pure_ (i := 2) (N := some 60) (v := ?_) (a' := ?_) #[true, true, true, true, false, true, false, false, false, false, false, false, false, false, false, false, false, false] rfl rfl (any_of HT_.out (by kernel_rfl)) (fun _ _ _ h => h) (Or.inl ⟨by rfl, ?_⟩) ?_ ?_
     rotate_left
     ·intro w'
      go_simp
      with_reducible rfl
     rotate_left
     ·simp only [Act.put, List.setIfInBounds_toArray, List.set_cons_zero, List.set_cons_succ, i64_w, i32_w]
      rfl
     refine take_ (i := 4) (N := some 62) (v := ?_) (a' := ?_) #[true, true, true, true, true, true, false, false, false, false, false, false, false, false, false, false, false, false] rfl rfl (take_ofW HT_.out HW_.out (by kernel_rfl)) (fun _ _ _ h => h) (Or.inl ⟨by rfl, ?_⟩) hHeld ?_ ?_
     rotate_left
     ·rintro w' ⟨s0, s1, s2, s3, s4, s5⟩
      go_simp
      with_reducible rfl
     rotate_left
     ·simp only [Act.put, List.setIfInBounds_toArray, List.set_cons_zero, List.set_cons_succ, i64_w, i32_w]
      rfl
     refine take_ (i := 6) (N := some 64) (v := ?_) (a' := ?_) #[true, true, true, true, true, true, true, false, false, false, false, false, false, false, false, false, false, false] rfl rfl (take_ofW HT_.out HW_.out (by kernel_rfl)) (fun _ _ _ h => h) (Or.inl ⟨by rfl, ?_⟩) hHeld ?_ ?_
     rotate_left
     ·rintro w' ⟨s0, s1, s2, s3, s4, s5⟩
      go_simp
      with_reducible rfl
     rotate_left
     ·simp only [Act.put, List.setIfInBounds_toArray, List.set_cons_zero, List.set_cons_succ, i64_w, i32_w]
      rfl
     refine pure_ (i := 7) (N := some 65) (v := ?_) (a' := ?_) #[true, true, true, true, true, true, true, true, false, false, false, false, false, false, false, false, false, false] rfl rfl (any_of HT_.out (by kernel_rfl)) (fun _ _ _ h => h) (Or.inl ⟨by rfl, ?_⟩) ?_ ?_
     rotate_left
     ·intro w'
      go_simp
      with_reducible rfl
     rotate_left
     ·simp only [Act.put, List.setIfInBounds_toArray, List.set_cons_zero, List.set_cons_succ, i64_w, i32_w]
      rfl
     refine pure_ (i := 8) (N := some 66) (v := ?_) (a' := ?_) #[true, true, true, true, true, true, true, true, true, false, false, false, false, false, false, false, false, false] rfl rfl (any_of HT_.out (by kernel_rfl)) (fun _ _ _ h => h) (Or.inl ⟨by rfl, ?_⟩) ?_ ?_
     rotate_left
     ·intro w'
      go_simp
      with_reducible rfl
     rotate_left
     ·simp only [Act.put, List.setIfInBounds_toArray, List.set_cons_zero, List.set_cons_succ, i64_w, i32_w]
      rfl
     refine pure_ (i := 9) (N := some 67) (v := undef) (a' := ?_) #[true, true, true, true, true, true, true, true, true, true, false, false, false, false, false, false, false, false] rfl rfl (any_of HT_.out (by kernel_rfl)) (fun _ _ _ h => h) (Or.inr ⟨by rfl, rfl⟩) ?_ ?_
     rotate_left
     ·simp only [Act.put, List.setIfInBounds_toArray, List.set_cons_zero, List.set_cons_succ, i64_w, i32_w]
      rfl
     refine pure_ (i := 10) (N := some 68) (v := undef) (a' := ?_) #[true, true, true, true, true, true, true, true, true, true, true, false, false, false, false, false, false, false] rfl rfl (any_of HT_.out (by kernel_rfl)) (fun _ _ _ h => h) (Or.inr ⟨by rfl, rfl⟩) ?_ ?_
     rotate_left
     ·simp only [Act.put, List.setIfInBounds_toArray, List.set_cons_zero, List.set_cons_succ, i64_w, i32_w]
      rfl
     refine pure_ (i := 11) (N := some 69) (v := undef) (a' := ?_) #[true, true, true, true, true, true, true, true, true, true, true, true, false, false, false, false, false, false] rfl rfl (any_of HT_.out (by kernel_rfl)) (fun _ _ _ h => h) (Or.inr ⟨by rfl, rfl⟩) ?_ ?_
     rotate_left
     ·simp only [Act.put, List.setIfInBounds_toArray, List.set_cons_zero, List.set_cons_succ, i64_w, i32_w]
      rfl
     refine pure_ (i := 12) (N := some 70) (v := undef) (a' := ?_) #[true, true, true, true, true, true, true, true, true, true, true, true, true, false, false, false, false, false] rfl rfl (any_of HT_.out (by kernel_rfl)) (fun _ _ _ h => h) (Or.inr ⟨by rfl, rfl⟩) ?_ ?_
     rotate_left
     ·simp only [Act.put, List.setIfInBounds_toArray, List.set_cons_zero, List.set_cons_succ, i64_w, i32_w]
      rfl
     refine pure_ (i := 13) (N := some 71) (v := undef) (a' := ?_) #[true, true, true, true, true, true, true, true, true, true, true, true, true, true, false, false, false, false] rfl rfl (any_of HT_.out (by kernel_rfl)) (fun _ _ _ h => h) (Or.inr ⟨by rfl, rfl⟩) ?_ ?_
     rotate_left
     ·simp only [Act.put, List.setIfInBounds_toArray, List.set_cons_zero, List.set_cons_succ, i64_w, i32_w]
      rfl
     refine pure_ (i := 14) (N := some 72) (v := ?_) (a' := ?_) #[true, true, true, true, true, true, true, true, true, true, true, true, true, true, true, false, false, false] rfl rfl (any_of HT_.out (by kernel_rfl)) (fun _ _ _ h => h) (Or.inl ⟨by rfl, ?_⟩) ?_ ?_
     rotate_left
     ·intro w'
      go_simp
      with_reducible rfl
     rotate_left
     ·simp only [Act.put, List.setIfInBounds_toArray, List.set_cons_zero, List.set_cons_succ, i64_w, i32_w]
      rfl
     refine pure_ (i := 15) (N := some 73) (v := ?_) (a' := ?_) #[true, true, true, true, true, true, true, true, true, true, true, true, true, true, true, true, false, false] rfl rfl (any_of HT_.out (by kernel_rfl)) (fun _ _ _ h => h) (Or.inl ⟨by rfl, ?_⟩) ?_ ?_
     rotate_left
     ·intro w'
      go_simp
      with_reducible rfl
     rotate_left
     ·simp only [Act.put, List.setIfInBounds_toArray, List.set_cons_zero, List.set_cons_succ, i64_w, i32_w]
      rfl
     refine one_ (i := 16) (N := some 14) #[true, true, true, true, true, true, true, true, true, true, true, true, true, true, true, true, true, false] rfl rfl (one_of HT_.out (by kernel_rfl)) (by decide) (fun K hK => ?_)
     refine box_step ?hg (N := 14) ?hd (cs := #[.bool false, .bool false, .slice none 0 0, .slice none 0 0]) (t := 34) ?hr ?_; (case hd => rfl); (case hg => rfl); (case hr => first | (go_simp; done) | (go_simp; rfl))
     intro gb235 hg w145 hbox hb
     have n0_ := Aside0.mk (blk_below (g := gb215) (o := .cells #[.int .i64 a1_0, .int .i64 a1_1, .int .i64 a1_2] 23 (0, 0)) (by (with_reducible repeat (first | refine blk_drewN ?_ _ | refine blk_drew ?_ | refine blk_alloc ?_ _)); exact BK215.out) hb)
     have n1_ := Aside0.mk (blk_below (g := gb216) (o := .cells #[.int .i64 a3_0, .int .i64 a3_1, .int .i64 a3_2] 23 (0, 0)) (by (with_reducible repeat (first | refine blk_drewN ?_ _ | refine blk_drew ?_ | refine blk_alloc ?_ _)); exact BK216.out) hb)
     have n2_ := Aside0.mk (blk_below (g := gb217) (o := .cells #[.bool false, .bool false, .slice none 0 0, .slice none 0 0] 34 (0, 0)) (by (with_reducible repeat (first | refine blk_drewN ?_ _ | refine blk_drew ?_ | refine blk_alloc ?_ _)); exact BK217.out) hb)
     have n3_ := Aside0.mk (blk_below (g := gb227) (o := .cells #[.string t221, .int .i64 t222, .int .u32 t223, .int .u8 t224, .int .i64 t225] 60 (0, 0)) (by (with_reducible repeat (first | refine blk_drewN ?_ _ | refine blk_drew ?_ | refine blk_alloc ?_ _)); exact BK227.out) hb)
     have n4_ := Aside0.mk (blk_below (g := gb234) (o := .cells #[.string t228, .int .i64 t229, .int .u32 t230, .int .u8 t231, .int .i64 t232] 60 (0, 0)) (by (with_reducible repeat (first | refine blk_drewN ?_ _ | refine blk_drew ?_ | refine blk_alloc ?_ _)); exact BK234.out) hb)
     have n5_ := Aside0.mk (below_step (by repeat (first | (with_reducible first | exact HB.out | apply below_alloc | apply pw_below_drewN | apply below_drew1 | refine below_set ?_ GE215.out | refine below_set ?_ GE216.out | refine below_set ?_ GE217.out | refine below_set ?_ GE227.out | refine below_set ?_ GE234.out) | exact HB.out)) hb)
     have n6_ := Aside0.mk (hbox)
     have n7_ := Aside0.mk ((by rw [hg]; exact (below_size (by repeat (first | (with_reducible first | exact HB.out | apply below_alloc | apply pw_below_drewN | apply below_drew1 | refine below_set ?_ GE215.out | refine below_set ?_ GE216.out | refine below_set ?_ GE217.out | refine below_set ?_ GE227.out | refine below_set ?_ GE234.out) | exact HB.out))) : w.heap.size ≤ gb235))
     have n8_ := Aside0.mk ((by rw [hg]; exact (below_size (by repeat (first | (with_reducible first | exact HB.out | apply below_alloc | apply pw_below_drewN | apply below_drew1 | refine below_set ?_ GE215.out | refine below_set ?_ GE216.out | refine below_set ?_ GE217.out | refine below_set ?_ GE227.out | refine below_set ?_ GE234.out) | exact HB.out))) : w.heap.size ≤ gb235))
     have n9_ := Aside0.mk ((by rw [hg]; exact Nat.ne_of_lt (blk_lt (g := gb215) (o := .cells #[.int .i64 a1_0, .int .i64 a1_1, .int .i64 a1_2] 23 (0, 0)) (by (with_reducible repeat (first | refine blk_drewN ?_ _ | refine blk_drew ?_ | refine blk_alloc ?_ _)); exact BK215.out)) : gb215 ≠ gb235))
     have n10_ := Aside0.mk ((by rw [hg]; exact Nat.ne_of_gt (blk_lt (g := gb215) (o := .cells #[.int .i64 a1_0, .int .i64 a1_1, .int .i64 a1_2] 23 (0, 0)) (by (with_reducible repeat (first | refine blk_drewN ?_ _ | refine blk_drew ?_ | refine blk_alloc ?_ _)); exact BK215.out)) : gb235 ≠ gb215))
     have n11_ := Aside0.mk ((by rw [hg]; exact Nat.ne_of_lt (blk_lt (g := gb216) (o := .cells #[.int .i64 a3_0, .int .i64 a3_1, .int .i64 a3_2] 23 (0, 0)) (by (with_reducible repeat (first | refine blk_drewN ?_ _ | refine blk_drew ?_ | refine blk_alloc ?_ _)); exact BK216.out)) : gb216 ≠ gb235))
     have n12_ := Aside0.mk ((by rw [hg]; exact Nat.ne_of_gt (blk_lt (g := gb216) (o := .cells #[.int .i64 a3_0, .int .i64 a3_1, .int .i64 a3_2] 23 (0, 0)) (by (with_reducible repeat (first | refine blk_drewN ?_ _ | refine blk_drew ?_ | refine blk_alloc ?_ _)); exact BK216.out)) : gb235 ≠ gb216))
     have n13_ := Aside0.mk ((by rw [hg]; exact Nat.ne_of_lt (blk_lt (g := gb217) (o := .cells #[.bool false, .bool false, .slice none 0 0, .slice none 0 0] 34 (0, 0)) (by (with_reducible repeat (first | refine blk_drewN ?_ _ | refine blk_drew ?_ | refine blk_alloc ?_ _)); exact BK217.out)) : gb217 ≠ gb235))
     have n14_ := Aside0.mk ((by rw [hg]; exact Nat.ne_of_gt (blk_lt (g := gb217) (o := .cells #[.bool false, .bool false, .slice none 0 0, .slice none 0 0] 34 (0, 0)) (by (with_reducible repeat (first | refine blk_drewN ?_ _ | refine blk_drew ?_ | refine blk_alloc ?_ _)); exact BK217.out)) : gb235 ≠ gb217))
     have n15_ := Aside0.mk ((by rw [hg]; exact Nat.ne_of_lt (blk_lt (g := gb227) (o := .cells #[.string t221, .int .i64 t222, .int .u32 t223, .int .u8 t224, .int .i64 t225] 60 (0, 0)) (by (with_reducible repeat (first | refine blk_drewN ?_ _ | refine blk_drew ?_ | refine blk_alloc ?_ _)); exact BK227.out)) : gb227 ≠ gb235))
     have n16_ := Aside0.mk ((by rw [hg]; exact Nat.ne_of_gt (blk_lt (g := gb227) (o := .cells #[.string t221, .int .i64 t222, .int .u32 t223, .int .u8 t224, .int .i64 t225] 60 (0, 0)) (by (with_reducible repeat (first | refine blk_drewN ?_ _ | refine blk_drew ?_ | refine blk_alloc ?_ _)); exact BK227.out)) : gb235 ≠ gb227))
     have n17_ := Aside0.mk ((by rw [hg]; exact Nat.ne_of_lt (blk_lt (g := gb234) (o := .cells #[.string t228, .int .i64 t229, .int .u32 t230, .int .u8 t231, .int .i64 t232] 60 (0, 0)) (by (with_reducible repeat (first | refine blk_drewN ?_ _ | refine blk_drew ?_ | refine blk_alloc ?_ _)); exact BK234.out)) : gb234 ≠ gb235))
     have n18_ := Aside0.mk ((by rw [hg]; exact Nat.ne_of_gt (blk_lt (g := gb234) (o := .cells #[.string t228, .int .i64 t229, .int .u32 t230, .int .u8 t231, .int .i64 t232] 60 (0, 0)) (by (with_reducible repeat (first | refine blk_drewN ?_ _ | refine blk_drew ?_ | refine blk_alloc ?_ _)); exact BK234.out)) : gb235 ≠ gb234))
     clear BK215
     clear BK216
     clear BK217
     clear BK227
     clear BK234
     clear HB
     have BK215 := n0_
     have BK216 := n1_
     have BK217 := n2_
     have BK227 := n3_
     have BK234 := n4_
     have HB := n5_
     have BK235 := n6_
     have GW235 := n7_
     have GE235 := n8_
     have NB215_235 := n9_
     have NB235_215 := n10_
     have NB216_235 := n11_
     have NB235_216 := n12_
     have NB217_235 := n13_
     have NB235_217 := n14_
     have NB227_235 := n15_
     have NB235_227 := n16_
     have NB234_235 := n17_
     have NB235_234 := n18_
     clear n0_ n1_ n2_ n3_ n4_ n5_ n6_ n7_ n8_ n9_ n10_ n11_ n12_ n13_ n14_ n15_ n16_ n17_ n18_
     clear hb hbox hg
     refine hK.out _ _ ⟨(blk_cell BK215.out 0).trans rfl, (blk_cell BK215.out 1).trans rfl, (blk_cell BK215.out 2).trans rfl, (blk_cell BK216.out 0).trans rfl, (blk_cell BK216.out 1).trans rfl, (blk_cell BK216.out 2).trans rfl⟩ (fun hHeld => ?_)
     clear hK K
     refine norm_ (a' := ?_) ?_ ?_
     rotate_left
     ·show Act.put _ (some 14) _ = _
      simp only [Act.put, List.setIfInBounds_toArray, List.set_cons_zero, List.set_cons_succ, i64_w, i32_w]
      rfl
     refine one_ (i := 17) (N := none) #[true, true, true, true, true, true, true, true, true, true, true, true, true, true, true, true, true, true] rfl rfl (one_of HT_.out (by kernel_rfl)) (by decide) (fun K hK => ?_)
     have hs146 : w145.cell? ⟨gb235, 0, none⟩ = some (.bool false) := (blk_cell BK235.out 0).trans rfl
     have hfs146 := blk_frozen BK235.out 0
     have hns146_0 := NB215_235.out
     have hns146_1 := NB216_235.out
     have hns146_2 := NB217_235.out
     have hns146_3 := NB227_235.out
     have hns146_4 := NB234_235.out
     have hms146_0 := NB235_215.out
     have hms146_1 := NB235_216.out
     have hms146_2 := NB235_217.out
     have hms146_3 := NB235_227.out
     have hms146_4 := NB235_234.out
     have hs147 : w145.cell? ⟨gb235, 1, none⟩ = some (.bool false) := (blk_cell BK235.out 1).trans rfl
     have hfs147 := blk_frozen BK235.out 1
     have hns147_0 := NB215_235.out
     have hns147_1 := NB216_235.out
     have hns147_2 := NB217_235.out
     have hns147_3 := NB227_235.out
     have hns147_4 := NB234_235.out
     have hms147_0 := NB235_215.out
     have hms147_1 := NB235_216.out
     have hms147_2 := NB235_217.out
     have hms147_3 := NB235_227.out
     have hms147_4 := NB235_234.out
     have hs148 : w145.cell? ⟨gb235, 2, none⟩ = some (.slice none 0 0) := (blk_cell BK235.out 2).trans rfl
     have hfs148 := blk_frozen BK235.out 2
     have hns148_0 := NB215_235.out
     have hns148_1 := NB216_235.out
     have hns148_2 := NB217_235.out
     have hns148_3 := NB227_235.out
     have hns148_4 := NB234_235.out
     have hms148_0 := NB235_215.out
     have hms148_1 := NB235_216.out
     have hms148_2 := NB235_217.out
     have hms148_3 := NB235_227.out
     have hms148_4 := NB235_234.out
     have hs149 : w145.cell? ⟨gb235, 3, none⟩ = some (.slice none 0 0) := (blk_cell BK235.out 3).trans rfl
     have hfs149 := blk_frozen BK235.out 3
     have hns149_0 := NB215_235.out
     have hns149_1 := NB216_235.out
     have hns149_2 := NB217_235.out
     have hns149_3 := NB227_235.out
     have hns149_4 := NB234_235.out
     have hms149_0 := NB235_215.out
     have hms149_1 := NB235_216.out
     have hms149_2 := NB235_217.out
     have hms149_3 := NB235_227.out
     have hms149_4 := NB235_234.out
     refine skip_ (w1 := ?_) (by rfl) rfl ?_ ?_
     rotate_left
     ·go_simp
      rfl
     refine hK.out _ _ ⟨((cell_far (p := ⟨gb235, _, none⟩) NB215_235.out _).trans (((cell_far (p := ⟨gb235, _, none⟩) NB215_235.out _).trans (((cell_far (p := ⟨gb235, _, none⟩) NB215_235.out _).trans (((cell_far (p := ⟨gb235, _, none⟩) NB215_235.out _).trans (hHeld.1)))))))), ((cell_far (p := ⟨gb235, _, none⟩) NB215_235.out _).trans (((cell_far (p := ⟨gb235, _, none⟩) NB215_235.out _).trans (((cell_far (p := ⟨gb235, _, none⟩) NB215_235.out _).trans (((cell_far (p := ⟨gb235, _, none⟩) NB215_235.out _).trans (hHeld.2.1)))))))), ((cell_far (p := ⟨gb235, _, none⟩) NB215_235.out _).trans (((cell_far (p := ⟨gb235, _, none⟩) NB215_235.out _).trans (((cell_far (p := ⟨gb235, _, none⟩) NB215_235.out _).trans (((cell_far (p := ⟨gb235, _, none⟩) NB215_235.out _).trans (hHeld.2.2.1)))))))), ((cell_far (p := ⟨gb235, _, none⟩) NB216_235.out _).trans (((cell_far (p := ⟨gb235, _, none⟩) NB216_235.out _).trans (((cell_far (p := ⟨gb235, _, none⟩) NB216_235.out _).trans (((cell_far (p := ⟨gb235, _, none⟩) NB216_235.out _).trans (hHeld.2.2.2.1)))))))), ((cell_far (p := ⟨gb235, _, none⟩) NB216_235.out _).trans (((cell_far (p := ⟨gb235, _, none⟩) NB216_235.out _).trans (((cell_far (p := ⟨gb235, _, none⟩) NB216_235.out _).trans (((cell_far (p := ⟨gb235, _, none⟩) NB216_235.out _).trans (hHeld.2.2.2.2.1)))))))), ((cell_far (p := ⟨gb235, _, none⟩) NB216_235.out _).trans (((cell_far (p := ⟨gb235, _, none⟩) NB216_235.out _).trans (((cell_far (p := ⟨gb235, _, none⟩) NB216_235.out _).trans (((cell_far (p := ⟨gb235, _, none⟩) NB216_235.out _).trans (hHeld.2.2.2.2.2))))))))⟩ (fun hHeld => ?_)
     clear hK K
     refine done_ (done_of HT_.out (by kernel_rfl)) ?_
     have hnb150 := NB215_235.out
     have hnc150 := NB235_215.out
     have hcz151_0 : w145.cell? ⟨gb215, 0, none⟩ = some (.int .i64 a1_0) := (blk_cell BK215.out 0).trans rfl
     have hcz151_1 : w145.cell? ⟨gb215, 1, none⟩ = some (.int .i64 a1_1) := (blk_cell BK215.out 1).trans rfl
     have hcz151_2 : w145.cell? ⟨gb215, 2, none⟩ = some (.int .i64 a1_2) := (blk_cell BK215.out 2).trans rfl
     have hfz151_0 := blk_frozen BK215.out 0
     have hfz151_1 := blk_frozen BK215.out 1
     have hfz151_2 := blk_frozen BK215.out 2
     try go_wp2_with (first | ((with_reducible refine gate_callee (f := 13) rfl ?_); refine goesL_ (some 77) rfl rfl Tryd.func13 (by kernel_rfl) rfl #[.string a0, .agg #[.int .i64 a1_0, .int .i64 a1_1, .int .i64 a1_2]] rfl (by (try simp only [List.map_toArray, List.map_cons, List.map_nil]); first | done | rfl | (simp only [List.length_drop, List.length_take]; rfl)) ?_; (with_reducible refine (gambrelref15_Set.calls kj4 a0 a1_0 a1_1 a1_2 t261 t264 _ A123.out).mono ?_); rintro e w152 ⟨v262, rfl, ho0, hb⟩; refine ⟨_, rfl, ?_⟩; have n0_ := Aside0.mk (Kd.R_lower ho0 (below_size (by repeat (first | (with_reducible first | exact HB.out | apply below_alloc | apply pw_below_drewN | apply below_drew1 | refine below_set ?_ GE215.out | refine below_set ?_ GE216.out | refine below_set ?_ GE217.out | refine below_set ?_ GE227.out | refine below_set ?_ GE234.out | refine below_set ?_ GE235.out) | exact HB.out)))); have n1_ := Aside0.mk (blk_below (g := gb215) (o := .cells #[.int .i64 a1_0, .int .i64 a1_1, .int .i64 a1_2] 23 (0, 0)) (by (with_reducible repeat (first | refine blk_drewN ?_ _ | refine blk_drew ?_ | refine blk_alloc ?_ _)); refine blk_far ?_ NB215_235.out _; (with_reducible repeat (first | refine blk_drewN ?_ _ | refine blk_drew ?_ | refine blk_alloc ?_ _)); refine blk_far ?_ NB215_235.out _; (with_reducible repeat (first | refine blk_drewN ?_ _ | refine blk_drew ?_ | refine blk_alloc ?_ _)); refine blk_far ?_ NB215_235.out _; (with_reducible repeat (first | refine blk_drewN ?_ _ | refine blk_drew ?_ | refine blk_alloc ?_ _)); refine blk_far ?_ NB215_235.out _; (with_reducible repeat (first | refine blk_drewN ?_ _ | refine blk_drew ?_ | refine blk_alloc ?_ _)); exact BK215.out) hb); have n2_ := Aside0.mk (blk_below (g := gb216) (o := .cells #[.int .i64 a3_0, .int .i64 a3_1, .int .i64 a3_2] 23 (0, 0)) (by (with_reducible repeat (first | refine blk_drewN ?_ _ | refine blk_drew ?_ | refine blk_alloc ?_ _)); refine blk_far ?_ NB216_235.out _; (with_reducible repeat (first | refine blk_drewN ?_ _ | refine blk_drew ?_ | refine blk_alloc ?_ _)); refine blk_far ?_ NB216_235.out _; (with_reducible repeat (first | refine blk_drewN ?_ _ | refine blk_drew ?_ | refine blk_alloc ?_ _)); refine blk_far ?_ NB216_235.out _; (with_reducible repeat (first | refine blk_drewN ?_ _ | refine blk_drew ?_ | refine blk_alloc ?_ _)); refine blk_far ?_ NB216_235.out _; (with_reducible repeat (first | refine blk_drewN ?_ _ | refine blk_drew ?_ | refine blk_alloc ?_ _)); exact BK216.out) hb); have n3_ := Aside0.mk (blk_below (g := gb217) (o := .cells #[.bool false, .bool false, .slice none 0 0, .slice none 0 0] 34 (0, 0)) (by (with_reducible repeat (first | refine blk_drewN ?_ _ | refine blk_drew ?_ | refine blk_alloc ?_ _)); refine blk_far ?_ NB217_235.out _; (with_reducible repeat (first | refine blk_drewN ?_ _ | refine blk_drew ?_ | refine blk_alloc ?_ _)); refine blk_far ?_ NB217_235.out _; (with_reducible repeat (first | refine blk_drewN ?_ _ | refine blk_drew ?_ | refine blk_alloc ?_ _)); refine blk_far ?_ NB217_235.out _; (with_reducible repeat (first | refine blk_drewN ?_ _ | refine blk_drew ?_ | refine blk_alloc ?_ _)); refine blk_far ?_ NB217_235.out _; (with_reducible repeat (first | refine blk_drewN ?_ _ | refine blk_drew ?_ | refine blk_alloc ?_ _)); exact BK217.out) hb); have n4_ := Aside0.mk (blk_below (g := gb227) (o := .cells #[.string t221, .int .i64 t222, .int .u32 t223, .int .u8 t224, .int .i64 t225] 60 (0, 0)) (by (with_reducible repeat (first | refine blk_drewN ?_ _ | refine blk_drew ?_ | refine blk_alloc ?_ _)); refine blk_far ?_ NB227_235.out _; (with_reducible repeat (first | refine blk_drewN ?_ _ | refine blk_drew ?_ | refine blk_alloc ?_ _)); refine blk_far ?_ NB227_235.out _; (with_reducible repeat (first | refine blk_drewN ?_ _ | refine blk_drew ?_ | refine blk_alloc ?_ _)); refine blk_far ?_ NB227_235.out _; (with_reducible repeat (first | refine blk_drewN ?_ _ | refine blk_drew ?_ | refine blk_alloc ?_ _)); refine blk_far ?_ NB227_235.out _; (with_reducible repeat (first | refine blk_drewN ?_ _ | refine blk_drew ?_ | refine blk_alloc ?_ _)); exact BK227.out) hb); have n5_ := Aside0.mk (blk_below (g := gb234) (o := .cells #[.string t228, .int .i64 t229, .int .u32 t230, .int .u8 t231, .int .i64 t232] 60 (0, 0)) (by (with_reducible repeat (first | refine blk_drewN ?_ _ | refine blk_drew ?_ | refine blk_alloc ?_ _)); refine blk_far ?_ NB234_235.out _; (with_reducible repeat (first | refine blk_drewN ?_ _ | refine blk_drew ?_ | refine blk_alloc ?_ _)); refine blk_far ?_ NB234_235.out _; (with_reducible repeat (first | refine blk_drewN ?_ _ | refine blk_drew ?_ | refine blk_alloc ?_ _)); refine blk_far ?_ NB234_235.out _; (with_reducible repeat (first | refine blk_drewN ?_ _ | refine blk_drew ?_ | refine blk_alloc ?_ _)); refine blk_far ?_ NB234_235.out _; (with_reducible repeat (first | refine blk_drewN ?_ _ | refine blk_drew ?_ | refine blk_alloc ?_ _)); exact BK234.out) hb); have n6_ := Aside0.mk (blk_below (g := gb235) (o := .cells #[.bool (eqT23 a1_0 a3_0 a1_1 a3_1 a1_2 a3_2), .bool false, .slice none 0 0, .slice none 0 0] 34 (0, 0)) (by (with_reducible repeat (first | refine blk_drewN ?_ _ | refine blk_drew ?_ | refine blk_alloc ?_ _)); refine blk_put (cs := #[.bool (eqT23 a1_0 a3_0 a1_1 a3_1 a1_2 a3_2), .bool false, .slice none 0 0, .slice none 0 0]) ?_ 3 _ rfl; (with_reducible repeat (first | refine blk_drewN ?_ _ | refine blk_drew ?_ | refine blk_alloc ?_ _)); refine blk_put (cs := #[.bool (eqT23 a1_0 a3_0 a1_1 a3_1 a1_2 a3_2), .bool false, .slice none 0 0, .slice none 0 0]) ?_ 2 _ rfl; (with_reducible repeat (first | refine blk_drewN ?_ _ | refine blk_drew ?_ | refine blk_alloc ?_ _)); refine blk_put (cs := #[.bool (eqT23 a1_0 a3_0 a1_1 a3_1 a1_2 a3_2), .bool false, .slice none 0 0, .slice none 0 0]) ?_ 1 _ rfl; (with_reducible repeat (first | refine blk_drewN ?_ _ | refine blk_drew ?_ | refine blk_alloc ?_ _)); refine blk_put (cs := #[.bool false, .bool false, .slice none 0 0, .slice none 0 0]) ?_ 0 _ rfl; (with_reducible repeat (first | refine blk_drewN ?_ _ | refine blk_drew ?_ | refine blk_alloc ?_ _)); exact BK235.out) hb); have n7_ := Aside0.mk (below_step (by repeat (first | (with_reducible first | exact HB.out | apply below_alloc | apply pw_below_drewN | apply below_drew1 | refine below_set ?_ GE215.out | refine below_set ?_ GE216.out | refine below_set ?_ GE217.out | refine below_set ?_ GE227.out | refine below_set ?_ GE234.out | refine below_set ?_ GE235.out) | exact HB.out)) hb); clear BK215; clear BK216; clear BK217; clear BK227; clear BK234; clear BK235; clear HB; have HO263 := n0_; have BK215 := n1_; have BK216 := n2_; have BK217 := n3_; have BK227 := n4_; have BK234 := n5_; have BK235 := n6_; have HB := n7_; clear n0_ n1_ n2_ n3_ n4_ n5_ n6_ n7_; (try clear hb); (try clear hb2); (try clear hk); (try clear hi); (try clear ho0); have hnb153 := NB216_235.out; have hnc153 := NB235_216.out; have hcz154_0 : w152.cell? ⟨gb216, 0, none⟩ = some (.int .i64 a3_0) := (blk_cell BK216.out 0).trans rfl; have hcz154_1 : w152.cell? ⟨gb216, 1, none⟩ = some (.int .i64 a3_1) := (blk_cell BK216.out 1).trans rfl; have hcz154_2 : w152.cell? ⟨gb216, 2, none⟩ = some (.int .i64 a3_2) := (blk_cell BK216.out 2).trans rfl; have hfz154_0 := blk_frozen BK216.out 0; have hfz154_1 := blk_frozen BK216.out 1; have hfz154_2 := blk_frozen BK216.out 2) | ((with_reducible refine gate_callee (f := 13) rfl ?_); refine goesL_ (some 83) rfl rfl Tryd.func13 (by kernel_rfl) rfl #[.string a0, .agg #[.int .i64 a3_0, .int .i64 a3_1, .int .i64 a3_2]] rfl (by (try simp only [List.map_toArray, List.map_cons, List.map_nil]); first | done | rfl | (simp only [List.length_drop, List.length_take]; rfl)) ?_; (with_reducible refine (gambrelref15_Set.calls kj4 a0 a3_0 a3_1 a3_2 t265 t268 _ A124.out).mono ?_); rintro e w155 ⟨v266, rfl, ho0, hb⟩; refine ⟨_, rfl, ?_⟩; have n0_ := Aside0.mk (Kd.R_elder' (by (with_reducible repeat (first | apply Kd.R_alloc | apply Kd.R_drewN | apply Kd.R_drew)); exact HO263.out) (Kd.R_base ho0) hb); have n1_ := Aside0.mk (Kd.R_lower (Kd.R_new' ho0 (Kd.R_lt (by (with_reducible repeat (first | apply Kd.R_alloc | apply Kd.R_drewN | apply Kd.R_drew)); exact HO263.out))) (below_size (by repeat (first | (with_reducible first | exact HB.out | apply below_alloc | apply pw_below_drewN | apply below_drew1 | refine below_set ?_ GE215.out | refine below_set ?_ GE216.out | refine below_set ?_ GE217.out | refine below_set ?_ GE227.out | refine below_set ?_ GE234.out | refine below_set ?_ GE235.out) | exact HB.out)))); have n2_ := Aside0.mk (blk_below (g := gb215) (o := .cells #[.int .i64 a1_0, .int .i64 a1_1, .int .i64 a1_2] 23 (0, 0)) (by (with_reducible repeat (first | refine blk_drewN ?_ _ | refine blk_drew ?_ | refine blk_alloc ?_ _)); exact BK215.out) hb); have n3_ := Aside0.mk (blk_below (g := gb216) (o := .cells #[.int .i64 a3_0, .int .i64 a3_1, .int .i64 a3_2] 23 (0, 0)) (by (with_reducible repeat (first | refine blk_drewN ?_ _ | refine blk_drew ?_ | refine blk_alloc ?_ _)); exact BK216.out) hb); have n4_ := Aside0.mk (blk_below (g := gb217) (o := .cells #[.bool false, .bool false, .slice none 0 0, .slice none 0 0] 34 (0, 0)) (by (with_reducible repeat (first | refine blk_drewN ?_ _ | refine blk_drew ?_ | refine blk_alloc ?_ _)); exact BK217.out) hb); have n5_ := Aside0.mk (blk_below (g := gb227) (o := .cells #[.string t221, .int .i64 t222, .int .u32 t223, .int .u8 t224, .int .i64 t225] 60 (0, 0)) (by (with_reducible repeat (first | refine blk_drewN ?_ _ | refine blk_drew ?_ | refine blk_alloc ?_ _)); exact BK227.out) hb); have n6_ := Aside0.mk (blk_below (g := gb234) (o := .cells #[.string t228, .int .i64 t229, .int .u32 t230, .int .u8 t231, .int .i64 t232] 60 (0, 0)) (by (with_reducible repeat (first | refine blk_drewN ?_ _ | refine blk_drew ?_ | refine blk_alloc ?_ _)); exact BK234.out) hb); have n7_ := Aside0.mk (blk_below (g := gb235) (o := .cells #[.bool (eqT23 a1_0 a3_0 a1_1 a3_1 a1_2 a3_2), .bool false, .slice none 0 0, .slice none 0 0] 34 (0, 0)) (by (with_reducible repeat (first | refine blk_drewN ?_ _ | refine blk_drew ?_ | refine blk_alloc ?_ _)); exact BK235.out) hb); have n8_ := Aside0.mk (below_step (by repeat (first | (with_reducible first | exact HB.out | apply below_alloc | apply pw_below_drewN | apply below_drew1 | refine below_set ?_ GE215.out | refine below_set ?_ GE216.out | refine below_set ?_ GE217.out | refine below_set ?_ GE227.out | refine below_set ?_ GE234.out | refine below_set ?_ GE235.out) | exact HB.out)) hb); clear HO263; clear BK215; clear BK216; clear BK217; clear BK227; clear BK234; clear BK235; clear HB; have HO263 := n0_; have HO267 := n1_; have BK215 := n2_; have BK216 := n3_; have BK217 := n4_; have BK227 := n5_; have BK234 := n6_; have BK235 := n7_; have HB := n8_; clear n0_ n1_ n2_ n3_ n4_ n5_ n6_ n7_ n8_; (try clear hb); (try clear hb2); (try clear hk); (try clear hi); (try clear ho0)))
     go_loopg [19] kj4 (fun kq v19 w' => ∃ (x19_2 : Int) (x236002_2 : List ByteArray) (u236002 : Value), v19 = .int .i64 x19_2 ∧ Aside0 (gambrelref22_Of.l0 kq l2 t261 t265 x19_2 (eqT23 a1_0 a3_0 a1_1 a3_1 a1_2 a3_2) false x236002_2 = some (r1, r2, r3, r4, r5)) ∧ Aside0 (kq ≤ kj4) ∧ Aside0 (Kd.R Kd.string 9 w' w.heap.size (fun k_ => some k_ ≠ (v266 : Value).ownBlock ∧ some k_ ≠ (u236002 : Value).ownBlock) v262 t261) ∧ Aside0 (Kd.R Kd.string 9 w' w.heap.size (fun k_ => some k_ ≠ (v262 : Value).ownBlock ∧ some k_ ≠ (u236002 : Value).ownBlock) v266 t265) ∧ Aside0 (Kd.R Kd.string 9 w' w.heap.size (fun k_ => some k_ ≠ (v262 : Value).ownBlock ∧ some k_ ≠ (v266 : Value).ownBlock) u236002 x236002_2) ∧ Aside0 (w'.heap[gb215]? = some (.cells #[.int .i64 a1_0, .int .i64 a1_1, .int .i64 a1_2] 23 (0, 0))) ∧ Aside0 (w'.heap[gb216]? = some (.cells #[.int .i64 a3_0, .int .i64 a3_1, .int .i64 a3_2] 23 (0, 0))) ∧ Aside0 (w'.heap[gb217]? = some (.cells #[.bool false, .bool false, (.slice none 0 0), (.slice none 0 0)] 34 (0, 0))) ∧ Aside0 (w'.heap[gb227]? = some (.cells #[.string t221, .int .i64 t222, .int .u32 t223, .int .u8 t224, .int .i64 t225] 60 (0, 0))) ∧ Aside0 (w'.heap[gb234]? = some (.cells #[.string t228, .int .i64 t229, .int .u32 t230, .int .u8 t231, .int .i64 t232] 60 (0, 0))) ∧ Aside0 (w'.heap[gb235]? = some (.cells #[.bool (eqT23 a1_0 a3_0 a1_1 a3_1 a1_2 a3_2), .bool false, u236002, (.slice none 0 0)] 34 (0, 0))) ∧ Aside0 (Below w.heap.size w w'))
     case atStart => exact ⟨(0), (([] : List ByteArray)), (.slice none 0 0), (by first | rfl | (simp; done) | (simp [*]; done)), H', ⟨Nat.le_refl _⟩, ⟨by (with_reducible repeat (first | apply Kd.R_alloc | apply Kd.R_drewN | apply Kd.R_drew)); exact Kd.R_mono HO263.out (fun _ hk => ⟨hk.2, (by simp [Value.ownBlock])⟩)⟩, ⟨by (with_reducible repeat (first | apply Kd.R_alloc | apply Kd.R_drewN | apply Kd.R_drew)); exact Kd.R_mono HO267.out (fun _ hk => ⟨hk.2, (by simp [Value.ownBlock])⟩)⟩, ⟨by first | exact Kd.R_nil _ _ _ _ _ | exact Kd.N_nil _ _ _ _ _ | exact Kd.V_nil _ _ _ _ _ | exact Kd.Q_nil _ _ _ _ _ | exact Kd.S_nil _ _ _ _ _⟩, ⟨by (with_reducible repeat (first | refine blk_drewN ?_ _ | refine blk_drew ?_ | refine blk_alloc ?_ _)); exact BK215.out⟩, ⟨by (with_reducible repeat (first | refine blk_drewN ?_ _ | refine blk_drew ?_ | refine blk_alloc ?_ _)); exact BK216.out⟩, ⟨by (with_reducible repeat (first | refine blk_drewN ?_ _ | refine blk_drew ?_ | refine blk_alloc ?_ _)); exact BK217.out⟩, ⟨by (with_reducible repeat (first | refine blk_drewN ?_ _ | refine blk_drew ?_ | refine blk_alloc ?_ _)); exact BK227.out⟩, ⟨by (with_reducible repeat (first | refine blk_drewN ?_ _ | refine blk_drew ?_ | refine blk_alloc ?_ _)); exact BK234.out⟩, ⟨by (with_reducible repeat (first | refine blk_drewN ?_ _ | refine blk_drew ?_ | refine blk_alloc ?_ _)); exact BK235.out⟩, ⟨by repeat (first | (with_reducible first | exact HB.out | apply below_alloc | apply pw_below_drewN | apply below_drew1 | refine below_set ?_ GE215.out | refine below_set ?_ GE216.out | refine below_set ?_ GE217.out | refine below_set ?_ GE227.out | refine below_set ?_ GE234.out | refine below_set ?_ GE235.out) | exact HB.out)⟩⟩
     case round =>
      clear H'
      try clear c1
      try clear c2
      try clear p2
      try clear q2
      try clear hx2
      try clear c4
      try clear p6
      try clear c9
      try clear c10
      try clear c11
      try clear c12
      try clear c13
      try clear c14
      try clear c15
      try clear c24
      try clear c25
      try clear p25
      try clear q25
      try clear hx25
      try clear c40
      try clear c40b0
      try clear c40b1
      try clear p64
      try clear c98
      try clear c98b0
      try clear c99
      try clear c99b0
      try clear c101
      try clear c101b0
      try clear c102
      try clear c110
      try clear c111
      try clear c112
      try clear c113
      try clear c114
      try clear c116
      try clear c117
      try clear c118
      try clear c119
      try clear c125
      try clear c126
      try clear c130
      try clear c131
      try clear c132
      try clear c134
      try clear c138
      try clear c139
      try clear c140
      try clear c141
      try clear c150
      try clear c153
      try clear hcz115_0
      try clear hcz115_1
      try clear hcz115_2
      try clear hcz115_3
      try clear hcz120_0
      try clear hcz120_1
      try clear hcz120_2
      try clear hcz120_3
      try clear hcz127_0
      try clear hcz127_1
      try clear hcz127_2
      try clear hcz133_0
      try clear hcz133_1
      try clear hcz133_2
      try clear hcz133_3
      try clear hcz133_4
      try clear hcz135_0
      try clear hcz135_1
      try clear hcz135_2
      try clear hcz142_0
      try clear hcz142_1
      try clear hcz142_2
      try clear hcz142_3
      try clear hcz142_4
      try clear hcz151_0
      try clear hcz151_1
      try clear hcz151_2
      try clear hcz154_0
      try clear hcz154_1
      try clear hcz154_2
      try clear hfz115_0
      try clear hfz115_1
      try clear hfz115_2
      try clear hfz115_3
      try clear hfz120_0
      try clear hfz120_1
      try clear hfz120_2
      try clear hfz120_3
      try clear hfz127_0
      try clear hfz127_1
      try clear hfz127_2
      try clear hfz133_0
      try clear hfz133_1
      try clear hfz133_2
      try clear hfz133_3
      try clear hfz133_4
      try clear hfz135_0
      try clear hfz135_1
      try clear hfz135_2
      try clear hfz142_0
      try clear hfz142_1
      try clear hfz142_2
      try clear hfz142_3
      try clear hfz142_4
      try clear hfz151_0
      try clear hfz151_1
      try clear hfz151_2
      try clear hfz154_0
      try clear hfz154_1
      try clear hfz154_2
      try clear hx255_0
      try clear hx257_0
      try clear p255
      try clear p257
      try clear q255
      try clear q257
      obtain ⟨x19_2, x236002_2, u236002, rfl, HA, HK2, HO_15, HO_17, HO_236002, BK215, BK216, BK217, BK227, BK234, BK235, HB⟩ := hrel
      cases gk with
      | zero => exact absurd HA.out (by simp [gambrelref22_Of.l0])
      | succ k2 =>
       have H := HA.out
       clear HA
       simp only [gambrelref22_Of.l0] at H
       by_cases c156 : x19_2 < (t265.length : Int)
       ·rw [if_pos c156] at H
        have c156b0 : decide (x19_2 < (t265.length : Int)) = true := decide_eq_true c156
        clear c156
        by_cases c157 : 0 ≤ x19_2
        ·rw [if_pos c157] at H
         have c157b0 : decide (0 ≤ x19_2) = true := decide_eq_true c157
         clear c157
         replace H := Option.bind_eq_some_iff.mp H
         obtain ⟨t245, A1580, H⟩ := H
         replace H : (if t245 < 0 then (if x236002_2.length < 8796093022208 then (gambrelref22_Of.l0 k2 l2 t261 t265 (wrap64 (x19_2 + 1)) (eqT23 a1_0 a3_0 a1_1 a3_1 a1_2 a3_2) false (x236002_2 ++ [rdOf ByteArray.empty t265 x19_2])) else (none)) else (if 0 ≤ t245 then (if t245 < (l2.length : Int) then (if (rd l2 t245) = 0 then (gambrelref22_Of.l0 k2 l2 t261 t265 (wrap64 (x19_2 + 1)) (eqT23 a1_0 a3_0 a1_1 a3_1 a1_2 a3_2) false x236002_2) else (if x236002_2.length < 8796093022208 then (gambrelref22_Of.l0 k2 l2 t261 t265 (wrap64 (x19_2 + 1)) (eqT23 a1_0 a3_0 a1_1 a3_1 a1_2 a3_2) false (x236002_2 ++ [rdOf ByteArray.empty t265 x19_2])) else (none))) else (none)) else (none))) = some (r1, r2, r3, r4, r5) := H
         have A158 := Aside0.mk A1580
         clear A1580
         by_cases c159 : t245 < 0
         ·rw [if_pos c159] at H
          have c159b0 : decide (t245 < 0) = true := decide_eq_true c159
          clear c159
          by_cases c160 : x236002_2.length < 8796093022208
          ·rw [if_pos c160] at H
           have LMc160 := Aside0.mk c160
           clear c160
           obtain ⟨y247, hy247⟩ : ∃ y_ : List ByteArray, y_ = (x236002_2 ++ [rdOf ByteArray.empty t265 x19_2]) := ⟨_, rfl⟩
           replace H : (gambrelref22_Of.l0 k2 l2 t261 t265 (wrap64 (x19_2 + 1)) (eqT23 a1_0 a3_0 a1_1 a3_1 a1_2 a3_2) false y247) = some (r1, r2, r3, r4, r5) := by first | (rw [hy247]; with_reducible exact H) | (have H2_ := (Option.bind_some _ _).symm.trans H; rw [hy247]; with_reducible exact H2_) | (have H2_ := (Option.bind_some _ _).symm.trans H; with_reducible exact H2_) | with_reducible exact H | (rw [hy247]; exact H) | exact H
           have Ny247 := Aside0.mk hy247
           clear hy247
           have H' := Aside0.mk H
           clear H
           obtain ⟨Ao161, co161, eo161⟩ := Kd.R_slice HO_17.out
           subst eo161
           have p244 : 0 ≤ (x19_2 : Int) := of_decide_eq_true (by first | (with_reducible assumption) | assumption)
           have q244 : x19_2 < (t265.length : Int) := of_decide_eq_true (by first | (with_reducible assumption) | assumption)
           obtain ⟨ad244, e244, hx244_0⟩ := Kd.at_string (Kd.R_reads' HO_17.out).2.2 x19_2 p244 q244
           cases e244
           replace p244 := eq_true p244
           replace q244 := eq_true q244
           obtain ⟨Ao162, co162, eo162⟩ := Kd.R_slice HO_15.out
           subst eo162
           try go_wp2_with (first | ((with_reducible refine gate_callee (f := 25) rfl ?_); refine goesL_ (some 97) rfl rfl Tryd.func25 (by kernel_rfl) rfl #[.slice Ao162 t261.length co162, .string (rdOf ByteArray.empty t265 x19_2)] rfl (by (try simp only [List.map_toArray, List.map_cons, List.map_nil]); first | done | rfl | (simp only [List.length_drop, List.length_take]; rfl)) ?_; (with_reducible refine (gambrelref22_at.calls k2 _ _ t261 (rdOf ByteArray.empty t265 x19_2) t245 _ ?side1 ?side2 A158.out).mono ?_); (case side1 => repeat (first | exact (Kd.R_reads' HO_15.out).2.2 | (with_reducible refine Kd.C_alloc ?_ _) | (with_reducible refine Kd.C_drewN ?_ _) | (with_reducible refine Kd.C_drew ?_))); (case side2 => exact (Kd.R_reads' HO_15.out).2.1); rintro e w' ⟨rfl, ⟨nd, rfl⟩⟩; refine ⟨_, rfl, ?_⟩; (try (rw [drewN_self wr]; generalize hq_ : World.drewN wr _ = wr; have n0_ : Aside0 (Kd.R Kd.string 9 wr w.heap.size (fun k_ => some k_ ≠ (.slice (some ad244) t265.length co161 : Value).ownBlock ∧ some k_ ≠ (u236002 : Value).ownBlock) (.slice Ao162 t261.length co162) t261) := ⟨by rw [← hq_]; exact (by (with_reducible repeat (first | apply Kd.R_alloc | apply Kd.R_drewN | apply Kd.R_drew)); exact HO_15.out)⟩; have n1_ : Aside0 (Kd.R Kd.string 9 wr w.heap.size (fun k_ => some k_ ≠ (.slice Ao162 t261.length co162 : Value).ownBlock ∧ some k_ ≠ (u236002 : Value).ownBlock) (.slice (some ad244) t265.length co161) t265) := ⟨by rw [← hq_]; exact (by (with_reducible repeat (first | apply Kd.R_alloc | apply Kd.R_drewN | apply Kd.R_drew)); exact HO_17.out)⟩; have n2_ : Aside0 (Kd.R Kd.string 9 wr w.heap.size (fun k_ => some k_ ≠ (.slice Ao162 t261.length co162 : Value).ownBlock ∧ some k_ ≠ (.slice (some ad244) t265.length co161 : Value).ownBlock) u236002 x236002_2) := ⟨by rw [← hq_]; exact (by (with_reducible repeat (first | apply Kd.R_alloc | apply Kd.R_drewN | apply Kd.R_drew)); exact HO_236002.out)⟩; have n3_ : Aside0 (wr.heap[gb215]? = some (.cells #[.int .i64 a1_0, .int .i64 a1_1, .int .i64 a1_2] 23 (0, 0))) := ⟨by rw [← hq_]; exact (by (with_reducible repeat (first | refine blk_drewN ?_ _ | refine blk_drew ?_ | refine blk_alloc ?_ _)); exact BK215.out)⟩; have n4_ : Aside0 (wr.heap[gb216]? = some (.cells #[.int .i64 a3_0, .int .i64 a3_1, .int .i64 a3_2] 23 (0, 0))) := ⟨by rw [← hq_]; exact (by (with_reducible repeat (first | refine blk_drewN ?_ _ | refine blk_drew ?_ | refine blk_alloc ?_ _)); exact BK216.out)⟩; have n5_ : Aside0 (wr.heap[gb217]? = some (.cells #[.bool false, .bool false, .slice none 0 0, .slice none 0 0] 34 (0, 0))) := ⟨by rw [← hq_]; exact (by (with_reducible repeat (first | refine blk_drewN ?_ _ | refine blk_drew ?_ | refine blk_alloc ?_ _)); exact BK217.out)⟩; have n6_ : Aside0 (wr.heap[gb227]? = some (.cells #[.string t221, .int .i64 t222, .int .u32 t223, .int .u8 t224, .int .i64 t225] 60 (0, 0))) := ⟨by rw [← hq_]; exact (by (with_reducible repeat (first | refine blk_drewN ?_ _ | refine blk_drew ?_ | refine blk_alloc ?_ _)); exact BK227.out)⟩; have n7_ : Aside0 (wr.heap[gb234]? = some (.cells #[.string t228, .int .i64 t229, .int .u32 t230, .int .u8 t231, .int .i64 t232] 60 (0, 0))) := ⟨by rw [← hq_]; exact (by (with_reducible repeat (first | refine blk_drewN ?_ _ | refine blk_drew ?_ | refine blk_alloc ?_ _)); exact BK234.out)⟩; have n8_ : Aside0 (wr.heap[gb235]? = some (.cells #[.bool (eqT23 a1_0 a3_0 a1_1 a3_1 a1_2 a3_2), .bool false, u236002, .slice none 0 0] 34 (0, 0))) := ⟨by rw [← hq_]; exact (by (with_reducible repeat (first | refine blk_drewN ?_ _ | refine blk_drew ?_ | refine blk_alloc ?_ _)); exact BK235.out)⟩; have n9_ : Aside0 (Below w.heap.size w wr) := ⟨by rw [← hq_]; exact (by repeat (first | (with_reducible first | exact HB.out | apply below_alloc | apply pw_below_drewN | apply below_drew1 | refine below_set ?_ GE215.out | refine below_set ?_ GE216.out | refine below_set ?_ GE217.out | refine below_set ?_ GE227.out | refine below_set ?_ GE234.out | refine below_set ?_ GE235.out) | exact HB.out))⟩; clear HO_15 HO_17 HO_236002 BK215 BK216 BK217 BK227 BK234 BK235 HB hq_; have HO_15 := n0_; have HO_17 := n1_; have HO_236002 := n2_; have BK215 := n3_; have BK216 := n4_; have BK217 := n5_; have BK227 := n6_; have BK234 := n7_; have BK235 := n8_; have HB := n9_; clear n0_ n1_ n2_ n3_ n4_ n5_ n6_ n7_ n8_ n9_))))
           have n0_ := Aside0.mk (Kd.R_drew HO_15.out)
           have n1_ := Aside0.mk (Kd.R_drew HO_17.out)
           have n2_ := Aside0.mk (Kd.R_drew HO_236002.out)
           have n3_ := Aside0.mk (blk_drew BK215.out)
           have n4_ := Aside0.mk (blk_drew BK216.out)
           have n5_ := Aside0.mk (blk_drew BK217.out)
           have n6_ := Aside0.mk (blk_drew BK227.out)
           have n7_ := Aside0.mk (blk_drew BK234.out)
           have n8_ := Aside0.mk (blk_drew BK235.out)
           have n9_ := Aside0.mk (below_drew1 HB.out)
           clear HO_15
           clear HO_17
           clear HO_236002
           clear BK215
           clear BK216
           clear BK217
           clear BK227
           clear BK234
           clear BK235
           clear HB
           have HO_15 := n0_
           have HO_17 := n1_
           have HO_236002 := n2_
           have BK215 := n3_
           have BK216 := n4_
           have BK217 := n5_
           have BK227 := n6_
           have BK234 := n7_
           have BK235 := n8_
           have HB := n9_
           clear n0_ n1_ n2_ n3_ n4_ n5_ n6_ n7_ n8_ n9_
           have p246 : 0 ≤ (x19_2 : Int) := of_decide_eq_true (by first | (with_reducible assumption) | assumption)
           have q246 : x19_2 < (t265.length : Int) := of_decide_eq_true (by first | (with_reducible assumption) | assumption)
           obtain ⟨ad246, e246, hx246_0⟩ := Kd.at_string (Kd.R_reads' HO_17.out).2.2 x19_2 p246 q246
           obtain rfl : ad244 = ad246 := (by injection e246)
           replace p246 := eq_true p246
           replace q246 := eq_true q246
           refine start_ (n := 10) (S := fun w' => w'.cell? ⟨gb235, 0, none⟩ = some (.bool (eqT23 a1_0 a3_0 a1_1 a3_1 a1_2 a3_2)) ∧ w'.cell? ⟨gb235, 1, none⟩ = some (.bool false) ∧ w'.cell? ⟨gb235, 2, none⟩ = some (u236002) ∧ w'.cell? ⟨gb235, 3, none⟩ = some (.slice none 0 0) ∧ w'.cell? (ad244.add (x19_2).toNat) = some (.string (rdOf ByteArray.empty t265 x19_2))) (ds := [7, 9]) #[false, false, false, false, false, false, false, false, false, false] (by kernel_rfl) rfl rfl ⟨(blk_cell BK235.out 0).trans rfl, (blk_cell BK235.out 1).trans rfl, (blk_cell BK235.out 2).trans rfl, (blk_cell BK235.out 3).trans rfl, hx246_0⟩ (fun hHeld => ?_); refine with_tabW gambrelref22_Of.tab13 gambrelref22_Of.bits13 (fun HT_ HW_ => ?_)
           generalize wr.drew = w163 at HO_15 HO_17 HO_236002 BK215 BK216 BK217 BK227 BK234 BK235 HB hx246_0 hHeld ⊢
           refine pure_ (i := 0) (N := some 107) (v := ?_) (a' := ?_) #[true, false, false, false, false, false, false, false, false, false] rfl rfl (any_of HT_.out (by kernel_rfl)) (fun _ _ _ h => h) (Or.inl ⟨by rfl, ?_⟩) ?_ ?_
           rotate_left
           ·intro w'
            go_simp
            with_reducible rfl
           rotate_left
           ·simp only [Act.put, List.setIfInBounds_toArray, List.set_cons_zero, List.set_cons_succ, i64_w, i32_w]
            rfl
           refine pure_ (i := 2) (N := some 109) (v := ?_) (a' := ?_) #[true, false, true, false, false, false, false, false, false, false] rfl rfl (any_of HT_.out (by kernel_rfl)) (fun _ _ _ h => h) (Or.inl ⟨by rfl, ?_⟩) ?_ ?_
           rotate_left
           ·intro w'
            go_simp
            with_reducible rfl
           rotate_left
           ·simp only [Act.put, List.setIfInBounds_toArray, List.set_cons_zero, List.set_cons_succ, i64_w, i32_w]
            rfl
           refine pure_ (i := 3) (N := some 110) (v := ?_) (a' := ?_) #[true, false, true, true, false, false, false, false, false, false] rfl rfl (any_of HT_.out (by kernel_rfl)) (fun _ _ _ h => h) (Or.inl ⟨by rfl, ?_⟩) ?_ ?_
           rotate_left
           ·intro w'
            go_simp
            with_reducible rfl
           rotate_left
           ·simp only [Act.put, List.setIfInBounds_toArray, List.set_cons_zero, List.set_cons_succ, i64_w, i32_w]
            rfl
           refine pure_ (i := 4) (N := some 111) (v := ?_) (a' := ?_) #[true, false, true, true, true, false, false, false, false, false] rfl rfl (any_of HT_.out (by kernel_rfl)) (fun _ _ _ h => h) (Or.inl ⟨by rfl, ?_⟩) ?_ ?_
           rotate_left
           ·intro w'
            go_simp
            with_reducible rfl
           rotate_left
           ·simp only [Act.put, List.setIfInBounds_toArray, List.set_cons_zero, List.set_cons_succ, i64_w, i32_w]
            rfl
           refine take_ (i := 1) (N := some 108) (v := ?_) (a' := ?_) #[true, true, true, true, true, false, false, false, false, false] rfl rfl (take_ofW HT_.out HW_.out (by kernel_rfl)) (fun _ _ _ h => h) (Or.inl ⟨by rfl, ?_⟩) hHeld ?_ ?_
           rotate_left
           ·rintro w' ⟨s0, s1, s2, s3, s4⟩
            go_simp
            with_reducible rfl
           rotate_left
           ·simp only [Act.put, List.setIfInBounds_toArray, List.set_cons_zero, List.set_cons_succ, i64_w, i32_w]
            rfl
           refine take_ (i := 5) (N := some 112) (v := ?_) (a' := ?_) #[true, true, true, true, true, true, false, false, false, false] rfl rfl (take_ofW HT_.out HW_.out (by kernel_rfl)) (fun _ _ _ h => h) (Or.inl ⟨by rfl, ?_⟩) hHeld ?_ ?_
           rotate_left
           ·rintro w' ⟨s0, s1, s2, s3, s4⟩
            go_simp
            with_reducible rfl
           rotate_left
           ·simp only [Act.put, List.setIfInBounds_toArray, List.set_cons_zero, List.set_cons_succ, i64_w, i32_w]
            rfl
           refine one_ (i := 6) (N := some 113) #[true, true, true, true, true, true, true, false, false, false] rfl rfl (one_of HT_.out (by kernel_rfl)) (by decide) (fun K hK => ?_)
           refine value_ (w1 := ?_) (v := ?_) (by rfl) rfl ?_ ?_
           rotate_left 2
           ·go_simp
            constructor
            ·rfl
            ·rfl
           refine hK.out _ _ ⟨(blk_cell (blk_alloc BK235.out _) 0).trans rfl, (blk_cell (blk_alloc BK235.out _) 1).trans rfl, (blk_cell (blk_alloc BK235.out _) 2).trans rfl, (blk_cell (blk_alloc BK235.out _) 3).trans rfl, (World.cell?_alloc_lt _ _ _ (World.block_lt_of_cell? _ _ (hHeld.2.2.2.2))).trans (hHeld.2.2.2.2)⟩ (fun hHeld => ?_)
           clear hK K
           refine norm_ (a' := ?_) ?_ ?_
           rotate_left
           ·show Act.put _ (some 113) _ = _
            simp only [Act.put, List.setIfInBounds_toArray, List.set_cons_zero, List.set_cons_succ, i64_w, i32_w]
            rfl
           refine last_ (i := 7) (N := some 114) #[true, true, true, true, true, true, true, true, false, false] rfl rfl (one_of HT_.out (by kernel_rfl)) (by decide) (fun K hK => ?_)
           refine Kd.R_append_step Kd.string (w0 := w) w.heap.size (by rfl) (.tmp 108) (.tmp 113) 28 9 (.string ⟨#[]⟩) 16 rfl Tryd.underlying28 info9 rfl (by decide) (by omega) u236002 x236002_2 (rdOf ByteArray.empty t265 x19_2) [.string (rdOf ByteArray.empty t265 x19_2)] (fun k_ => some k_ ≠ (.slice Ao162 t261.length co162 : Value).ownBlock ∧ some k_ ≠ (.slice (some ad244) t265.length co161 : Value).ownBlock) (fun _ => False) rfl rfl ?aP (fun _ hk => hk.elim) ?aF ?aO ?aB ?aS ?aL ?_
           (case aP => exact rfl)
           (case aB => exact (by repeat (first | (with_reducible first | exact HB.out | apply below_alloc | apply pw_below_drewN | apply below_drew1 | refine below_set ?_ GE215.out | refine below_set ?_ GE216.out | refine below_set ?_ GE217.out | refine below_set ?_ GE227.out | refine below_set ?_ GE234.out | refine below_set ?_ GE235.out) | exact HB.out)))
           (case aF => exact (fun k_ hk => ⟨Kd.fresh' (Kd.R_lt (by (with_reducible repeat (first | apply Kd.R_alloc | apply Kd.R_drewN | apply Kd.R_drew)); exact HO_15.out)) k_ hk, Kd.fresh' (Kd.R_lt (by (with_reducible repeat (first | apply Kd.R_alloc | apply Kd.R_drewN | apply Kd.R_drew)); exact HO_17.out)) k_ hk⟩))
           (case aO => exact (by (with_reducible repeat (first | apply Kd.R_alloc | apply Kd.R_drewN | apply Kd.R_drew)); exact HO_236002.out))
           (case aS => exact (below_size (by repeat (first | (with_reducible first | exact HB.out | apply below_alloc | apply pw_below_drewN | apply below_drew1 | refine below_set ?_ GE215.out | refine below_set ?_ GE216.out | refine below_set ?_ GE217.out | refine below_set ?_ GE227.out | refine below_set ?_ GE234.out | refine below_set ?_ GE235.out) | exact HB.out))))
           (case aL => have := LMc160.out; omega)
           intro v248 w164 ho hb hg hat
           rw [← Ny247.out] at ho
           have n0_ := Aside0.mk (Kd.R_after (ok := (fun k_ => some k_ ≠ (.slice (some ad244) t265.length co161 : Value).ownBlock)) (by (with_reducible repeat (first | apply Kd.R_alloc | apply Kd.R_drewN | apply Kd.R_drew)); exact HO_15.out) hg hat)
           have n1_ := Aside0.mk (Kd.R_after (ok := (fun k_ => some k_ ≠ (.slice Ao162 t261.length co162 : Value).ownBlock)) (by (with_reducible repeat (first | apply Kd.R_alloc | apply Kd.R_drewN | apply Kd.R_drew)); exact HO_17.out) hg hat)
           have n2_ := Aside0.mk (blk_grown (g := gb215) (o := .cells #[.int .i64 a1_0, .int .i64 a1_1, .int .i64 a1_2] 23 (0, 0)) (by (with_reducible repeat (first | refine blk_drewN ?_ _ | refine blk_drew ?_ | refine blk_alloc ?_ _)); exact BK215.out) hg (Kd.R_ne HO_236002.out BK215.out (by decide)))
           have n3_ := Aside0.mk (blk_grown (g := gb216) (o := .cells #[.int .i64 a3_0, .int .i64 a3_1, .int .i64 a3_2] 23 (0, 0)) (by (with_reducible repeat (first | refine blk_drewN ?_ _ | refine blk_drew ?_ | refine blk_alloc ?_ _)); exact BK216.out) hg (Kd.R_ne HO_236002.out BK216.out (by decide)))
           have n4_ := Aside0.mk (blk_grown (g := gb217) (o := .cells #[.bool false, .bool false, .slice none 0 0, .slice none 0 0] 34 (0, 0)) (by (with_reducible repeat (first | refine blk_drewN ?_ _ | refine blk_drew ?_ | refine blk_alloc ?_ _)); exact BK217.out) hg (Kd.R_ne HO_236002.out BK217.out (by decide)))
           have n5_ := Aside0.mk (blk_grown (g := gb227) (o := .cells #[.string t221, .int .i64 t222, .int .u32 t223, .int .u8 t224, .int .i64 t225] 60 (0, 0)) (by (with_reducible repeat (first | refine blk_drewN ?_ _ | refine blk_drew ?_ | refine blk_alloc ?_ _)); exact BK227.out) hg (Kd.R_ne HO_236002.out BK227.out (by decide)))
           have n6_ := Aside0.mk (blk_grown (g := gb234) (o := .cells #[.string t228, .int .i64 t229, .int .u32 t230, .int .u8 t231, .int .i64 t232] 60 (0, 0)) (by (with_reducible repeat (first | refine blk_drewN ?_ _ | refine blk_drew ?_ | refine blk_alloc ?_ _)); exact BK234.out) hg (Kd.R_ne HO_236002.out BK234.out (by decide)))
           have n7_ := Aside0.mk (blk_grown (g := gb235) (o := .cells #[.bool (eqT23 a1_0 a3_0 a1_1 a3_1 a1_2 a3_2), .bool false, u236002, .slice none 0 0] 34 (0, 0)) (by (with_reducible repeat (first | refine blk_drewN ?_ _ | refine blk_drew ?_ | refine blk_alloc ?_ _)); exact BK235.out) hg (Kd.R_ne HO_236002.out BK235.out (by decide)))
           have n8_ := Aside0.mk (hb)
           have n9_ := Aside0.mk (ho)
           clear HO_15
           clear HO_17
           clear BK215
           clear BK216
           clear BK217
           clear BK227
           clear BK234
           clear BK235
           clear HB
           clear HO_236002
           have HO_15 := n0_
           have HO_17 := n1_
           have BK215 := n2_
           have BK216 := n3_
           have BK217 := n4_
           have BK227 := n5_
           have BK234 := n6_
           have BK235 := n7_
           have HB := n8_
           have HO249 := n9_
           clear n0_ n1_ n2_ n3_ n4_ n5_ n6_ n7_ n8_ n9_
           clear ho hb hg hat
           obtain ⟨Ao165, co165, eo165⟩ := Kd.R_slice HO249.out
           (first | subst eo165 | (injection eo165 with f1_ f2_ f3_; have f4_ := f1_.symm; have f5_ := f3_.symm; clear f1_ f2_ f3_; subst f4_; subst f5_))
           refine hK.out _ _ ?_
           clear hK K
           refine norm_ (a' := ?_) ?_ ?_
           rotate_left
           ·show Act.put _ (some 114) _ = _
            simp only [Act.put, List.setIfInBounds_toArray, List.set_cons_zero, List.set_cons_succ, i64_w, i32_w]
            rfl
           refine pure_ (i := 8) (N := some 115) (v := ?_) (a' := ?_) #[true, true, true, true, true, true, true, true, true, false] rfl rfl (any_of HT_.out (by kernel_rfl)) (fun _ _ _ h => h) (Or.inl ⟨by rfl, ?_⟩) ?_ ?_
           rotate_left
           ·intro w'
            go_simp
            with_reducible rfl
           rotate_left
           ·simp only [Act.put, List.setIfInBounds_toArray, List.set_cons_zero, List.set_cons_succ, i64_w, i32_w]
            rfl
           refine last_ (i := 9) (N := none) #[true, true, true, true, true, true, true, true, true, true] rfl rfl (one_of HT_.out (by kernel_rfl)) (by decide) (fun K hK => ?_)
           have hs166 : w164.cell? ⟨gb235, 2, none⟩ = some (u236002) := (blk_cell BK235.out 2).trans rfl
           have hfs166 := blk_frozen BK235.out 2
           have hns166_0 := NB215_235.out
           have hns166_1 := NB216_235.out
           have hns166_2 := NB217_235.out
           have hns166_3 := NB227_235.out
           have hns166_4 := NB234_235.out
           have hms166_0 := NB235_215.out
           have hms166_1 := NB235_216.out
           have hms166_2 := NB235_217.out
           have hms166_3 := NB235_227.out
           have hms166_4 := NB235_234.out
           refine skip_ (w1 := ?_) (by rfl) rfl ?_ ?_
           rotate_left
           ·go_simp
            rfl
           refine hK.out _ _ ?_
           clear hK K
           refine done_ (done_of HT_.out (by kernel_rfl)) ?_
           try go_wp2
           go_roundg k2
           case measure => have := HJ4.out; have := HK2.out; omega
           case rel => exact ⟨(wrap64 (x19_2 + 1)), (y247), (.slice Ao165 y247.length co165), (by first | rfl | (simp; done) | (simp [*]; done)), H', ⟨by have := HJ4.out; have := HK2.out; omega⟩, ⟨by (with_reducible repeat (first | apply Kd.R_alloc | apply Kd.R_drewN | apply Kd.R_drew)); exact Kd.R_mono (Kd.R_far (p := ⟨gb235, 2, none⟩) (Kd.R_types HO_15.out BK235.out (by decide)) (fun _ hk => hk.2) (.slice Ao165 y247.length co165)) (fun _ hk => ⟨hk.1.1, hk.1.2⟩)⟩, ⟨by (with_reducible repeat (first | apply Kd.R_alloc | apply Kd.R_drewN | apply Kd.R_drew)); exact Kd.R_mono (Kd.R_far (p := ⟨gb235, 2, none⟩) (Kd.R_types HO_17.out BK235.out (by decide)) (fun _ hk => hk.2) (.slice Ao165 y247.length co165)) (fun _ hk => ⟨hk.1.1, hk.1.2⟩)⟩, ⟨by (with_reducible repeat (first | apply Kd.R_alloc | apply Kd.R_drewN | apply Kd.R_drew)); exact Kd.R_mono (Kd.R_far (p := ⟨gb235, 2, none⟩) (Kd.R_types HO249.out BK235.out (by decide)) (fun _ hk => hk.2) (.slice Ao165 y247.length co165)) (fun _ hk => ⟨hk.1.1, hk.1.2⟩)⟩, ⟨by (with_reducible repeat (first | refine blk_drewN ?_ _ | refine blk_drew ?_ | refine blk_alloc ?_ _)); refine blk_far ?_ NB215_235.out _; (with_reducible repeat (first | refine blk_drewN ?_ _ | refine blk_drew ?_ | refine blk_alloc ?_ _)); exact BK215.out⟩, ⟨by (with_reducible repeat (first | refine blk_drewN ?_ _ | refine blk_drew ?_ | refine blk_alloc ?_ _)); refine blk_far ?_ NB216_235.out _; (with_reducible repeat (first | refine blk_drewN ?_ _ | refine blk_drew ?_ | refine blk_alloc ?_ _)); exact BK216.out⟩, ⟨by (with_reducible repeat (first | refine blk_drewN ?_ _ | refine blk_drew ?_ | refine blk_alloc ?_ _)); refine blk_far ?_ NB217_235.out _; (with_reducible repeat (first | refine blk_drewN ?_ _ | refine blk_drew ?_ | refine blk_alloc ?_ _)); exact BK217.out⟩, ⟨by (with_reducible repeat (first | refine blk_drewN ?_ _ | refine blk_drew ?_ | refine blk_alloc ?_ _)); refine blk_far ?_ NB227_235.out _; (with_reducible repeat (first | refine blk_drewN ?_ _ | refine blk_drew ?_ | refine blk_alloc ?_ _)); exact BK227.out⟩, ⟨by (with_reducible repeat (first | refine blk_drewN ?_ _ | refine blk_drew ?_ | refine blk_alloc ?_ _)); refine blk_far ?_ NB234_235.out _; (with_reducible repeat (first | refine blk_drewN ?_ _ | refine blk_drew ?_ | refine blk_alloc ?_ _)); exact BK234.out⟩, ⟨by (with_reducible repeat (first | refine blk_drewN ?_ _ | refine blk_drew ?_ | refine blk_alloc ?_ _)); refine blk_put (cs := #[.bool (eqT23 a1_0 a3_0 a1_1 a3_1 a1_2 a3_2), .bool false, u236002, .slice none 0 0]) ?_ 2 _ rfl; (with_reducible repeat (first | refine blk_drewN ?_ _ | refine blk_drew ?_ | refine blk_alloc ?_ _)); exact BK235.out⟩, ⟨by repeat (first | (with_reducible first | exact HB.out | apply below_alloc | apply pw_below_drewN | apply below_drew1 | refine below_set ?_ GE215.out | refine below_set ?_ GE216.out | refine below_set ?_ GE217.out | refine below_set ?_ GE227.out | refine below_set ?_ GE234.out | refine below_set ?_ GE235.out) | exact HB.out)⟩⟩
          ·rw [if_neg c160] at H
           exact absurd H (by simp)
         ·rw [if_neg c159] at H
          have c159b0 : decide (t245 < 0) = false := decide_eq_false c159
          clear c159
          by_cases c167 : 0 ≤ t245
          ·rw [if_pos c167] at H
           have c167b0 : decide (0 ≤ t245) = true := decide_eq_true c167
           clear c167
           by_cases c168 : t245 < (l2.length : Int)
           ·rw [if_pos c168] at H
            have c168b0 : decide (t245 < (l2.length : Int)) = true := decide_eq_true c168
            clear c168
            by_cases c169 : (rd l2 t245) = 0
            ·rw [if_pos c169] at H
             have c169b0 : ((rd l2 t245) == 0) = true := beq_iff_eq.mpr c169
             have c169b1 : ((rd l2 t245) != 0) = false := bne_eq_false_iff_eq.mpr c169
             clear c169
             have H' := Aside0.mk H
             clear H
             obtain ⟨Ao170, co170, eo170⟩ := Kd.R_slice HO_17.out
             subst eo170
             have p244 : 0 ≤ (x19_2 : Int) := of_decide_eq_true (by first | (with_reducible assumption) | assumption)
             have q244 : x19_2 < (t265.length : Int) := of_decide_eq_true (by first | (with_reducible assumption) | assumption)
             obtain ⟨ad244, e244, hx244_0⟩ := Kd.at_string (Kd.R_reads' HO_17.out).2.2 x19_2 p244 q244
             cases e244
             replace p244 := eq_true p244
             replace q244 := eq_true q244
             obtain ⟨Ao171, co171, eo171⟩ := Kd.R_slice HO_15.out
             subst eo171
             go_wp2_with (first | ((with_reducible refine gate_callee (f := 25) rfl ?_); refine goesL_ (some 97) rfl rfl Tryd.func25 (by kernel_rfl) rfl #[.slice Ao171 t261.length co171, .string (rdOf ByteArray.empty t265 x19_2)] rfl (by (try simp only [List.map_toArray, List.map_cons, List.map_nil]); first | done | rfl | (simp only [List.length_drop, List.length_take]; rfl)) ?_; (with_reducible refine (gambrelref22_at.calls k2 _ _ t261 (rdOf ByteArray.empty t265 x19_2) t245 _ ?side1 ?side2 A158.out).mono ?_); (case side1 => repeat (first | exact (Kd.R_reads' HO_15.out).2.2 | (with_reducible refine Kd.C_alloc ?_ _) | (with_reducible refine Kd.C_drewN ?_ _) | (with_reducible refine Kd.C_drew ?_))); (case side2 => exact (Kd.R_reads' HO_15.out).2.1); rintro e w' ⟨rfl, ⟨nd, rfl⟩⟩; refine ⟨_, rfl, ?_⟩; have p250 : 0 ≤ (t245 : Int) := of_decide_eq_true (by first | (with_reducible assumption) | assumption); have q250 : t245 < (l2.length : Int) := of_decide_eq_true (by first | (with_reducible assumption) | assumption); obtain ⟨ad250, e250, hx250_0⟩ := Kd.at_int HR2.out t245 p250 q250; cases e250; replace hx250_0 := (HB.out.cell (World.block_lt_of_cell? w _ hx250_0)).trans hx250_0; replace p250 := eq_true p250; replace q250 := eq_true q250))
             go_roundg k2
             case measure => have := HJ4.out; have := HK2.out; omega
             case rel => exact ⟨(wrap64 (x19_2 + 1)), (x236002_2), (u236002), (by first | rfl | (simp; done) | (simp [*]; done)), H', ⟨by have := HJ4.out; have := HK2.out; omega⟩, ⟨by (with_reducible repeat (first | apply Kd.R_alloc | apply Kd.R_drewN | apply Kd.R_drew)); exact HO_15.out⟩, ⟨by (with_reducible repeat (first | apply Kd.R_alloc | apply Kd.R_drewN | apply Kd.R_drew)); exact HO_17.out⟩, ⟨by (with_reducible repeat (first | apply Kd.R_alloc | apply Kd.R_drewN | apply Kd.R_drew)); exact HO_236002.out⟩, ⟨by (with_reducible repeat (first | refine blk_drewN ?_ _ | refine blk_drew ?_ | refine blk_alloc ?_ _)); exact BK215.out⟩, ⟨by (with_reducible repeat (first | refine blk_drewN ?_ _ | refine blk_drew ?_ | refine blk_alloc ?_ _)); exact BK216.out⟩, ⟨by (with_reducible repeat (first | refine blk_drewN ?_ _ | refine blk_drew ?_ | refine blk_alloc ?_ _)); exact BK217.out⟩, ⟨by (with_reducible repeat (first | refine blk_drewN ?_ _ | refine blk_drew ?_ | refine blk_alloc ?_ _)); exact BK227.out⟩, ⟨by (with_reducible repeat (first | refine blk_drewN ?_ _ | refine blk_drew ?_ | refine blk_alloc ?_ _)); exact BK234.out⟩, ⟨by (with_reducible repeat (first | refine blk_drewN ?_ _ | refine blk_drew ?_ | refine blk_alloc ?_ _)); exact BK235.out⟩, ⟨by repeat (first | (with_reducible first | exact HB.out | apply below_alloc | apply pw_below_drewN | apply below_drew1 | refine below_set ?_ GE215.out | refine below_set ?_ GE216.out | refine below_set ?_ GE217.out | refine below_set ?_ GE227.out | refine below_set ?_ GE234.out | refine below_set ?_ GE235.out) | exact HB.out)⟩⟩
            ·rw [if_neg c169] at H
             have c169b0 : ((rd l2 t245) == 0) = false := beq_eq_false_iff_ne.mpr c169
             have c169b1 : ((rd l2 t245) != 0) = true := bne_iff_ne.mpr c169
             by_cases c172 : x236002_2.length < 8796093022208
             ·rw [if_pos c172] at H
              have LMc172 := Aside0.mk c172
              clear c172
              obtain ⟨y252, hy252⟩ : ∃ y_ : List ByteArray, y_ = (x236002_2 ++ [rdOf ByteArray.empty t265 x19_2]) := ⟨_, rfl⟩
              replace H : (gambrelref22_Of.l0 k2 l2 t261 t265 (wrap64 (x19_2 + 1)) (eqT23 a1_0 a3_0 a1_1 a3_1 a1_2 a3_2) false y252) = some (r1, r2, r3, r4, r5) := by first | (rw [hy252]; with_reducible exact H) | (have H2_ := (Option.bind_some _ _).symm.trans H; rw [hy252]; with_reducible exact H2_) | (have H2_ := (Option.bind_some _ _).symm.trans H; with_reducible exact H2_) | with_reducible exact H | (rw [hy252]; exact H) | exact H
              have Ny252 := Aside0.mk hy252
              clear hy252
              have H' := Aside0.mk H
              clear H
              obtain ⟨Ao173, co173, eo173⟩ := Kd.R_slice HO_17.out
              subst eo173
              have p244 : 0 ≤ (x19_2 : Int) := of_decide_eq_true (by first | (with_reducible assumption) | assumption)
              have q244 : x19_2 < (t265.length : Int) := of_decide_eq_true (by first | (with_reducible assumption) | assumption)
              obtain ⟨ad244, e244, hx244_0⟩ := Kd.at_string (Kd.R_reads' HO_17.out).2.2 x19_2 p244 q244
              cases e244
              replace p244 := eq_true p244
              replace q244 := eq_true q244
              obtain ⟨Ao174, co174, eo174⟩ := Kd.R_slice HO_15.out
              subst eo174
              try go_wp2_with (first | ((with_reducible refine gate_callee (f := 25) rfl ?_); refine goesL_ (some 97) rfl rfl Tryd.func25 (by kernel_rfl) rfl #[.slice Ao174 t261.length co174, .string (rdOf ByteArray.empty t265 x19_2)] rfl (by (try simp only [List.map_toArray, List.map_cons, List.map_nil]); first | done | rfl | (simp only [List.length_drop, List.length_take]; rfl)) ?_; (with_reducible refine (gambrelref22_at.calls k2 _ _ t261 (rdOf ByteArray.empty t265 x19_2) t245 _ ?side1 ?side2 A158.out).mono ?_); (case side1 => repeat (first | exact (Kd.R_reads' HO_15.out).2.2 | (with_reducible refine Kd.C_alloc ?_ _) | (with_reducible refine Kd.C_drewN ?_ _) | (with_reducible refine Kd.C_drew ?_))); (case side2 => exact (Kd.R_reads' HO_15.out).2.1); rintro e w' ⟨rfl, ⟨nd, rfl⟩⟩; refine ⟨_, rfl, ?_⟩; (try (rw [drewN_self wr]; generalize hq_ : World.drewN wr _ = wr; have n0_ : Aside0 (Kd.R Kd.string 9 wr w.heap.size (fun k_ => some k_ ≠ (.slice (some ad244) t265.length co173 : Value).ownBlock ∧ some k_ ≠ (u236002 : Value).ownBlock) (.slice Ao174 t261.length co174) t261) := ⟨by rw [← hq_]; exact (by (with_reducible repeat (first | apply Kd.R_alloc | apply Kd.R_drewN | apply Kd.R_drew)); exact HO_15.out)⟩; have n1_ : Aside0 (Kd.R Kd.string 9 wr w.heap.size (fun k_ => some k_ ≠ (.slice Ao174 t261.length co174 : Value).ownBlock ∧ some k_ ≠ (u236002 : Value).ownBlock) (.slice (some ad244) t265.length co173) t265) := ⟨by rw [← hq_]; exact (by (with_reducible repeat (first | apply Kd.R_alloc | apply Kd.R_drewN | apply Kd.R_drew)); exact HO_17.out)⟩; have n2_ : Aside0 (Kd.R Kd.string 9 wr w.heap.size (fun k_ => some k_ ≠ (.slice Ao174 t261.length co174 : Value).ownBlock ∧ some k_ ≠ (.slice (some ad244) t265.length co173 : Value).ownBlock) u236002 x236002_2) := ⟨by rw [← hq_]; exact (by (with_reducible repeat (first | apply Kd.R_alloc | apply Kd.R_drewN | apply Kd.R_drew)); exact HO_236002.out)⟩; have n3_ : Aside0 (wr.heap[gb215]? = some (.cells #[.int .i64 a1_0, .int .i64 a1_1, .int .i64 a1_2] 23 (0, 0))) := ⟨by rw [← hq_]; exact (by (with_reducible repeat (first | refine blk_drewN ?_ _ | refine blk_drew ?_ | refine blk_alloc ?_ _)); exact BK215.out)⟩; have n4_ : Aside0 (wr.heap[gb216]? = some (.cells #[.int .i64 a3_0, .int .i64 a3_1, .int .i64 a3_2] 23 (0, 0))) := ⟨by rw [← hq_]; exact (by (with_reducible repeat (first | refine blk_drewN ?_ _ | refine blk_drew ?_ | refine blk_alloc ?_ _)); exact BK216.out)⟩; have n5_ : Aside0 (wr.heap[gb217]? = some (.cells #[.bool false, .bool false, .slice none 0 0, .slice none 0 0] 34 (0, 0))) := ⟨by rw [← hq_]; exact (by (with_reducible repeat (first | refine blk_drewN ?_ _ | refine blk_drew ?_ | refine blk_alloc ?_ _)); exact BK217.out)⟩; have n6_ : Aside0 (wr.heap[gb227]? = some (.cells #[.string t221, .int .i64 t222, .int .u32 t223, .int .u8 t224, .int .i64 t225] 60 (0, 0))) := ⟨by rw [← hq_]; exact (by (with_reducible repeat (first | refine blk_drewN ?_ _ | refine blk_drew ?_ | refine blk_alloc ?_ _)); exact BK227.out)⟩; have n7_ : Aside0 (wr.heap[gb234]? = some (.cells #[.string t228, .int .i64 t229, .int .u32 t230, .int .u8 t231, .int .i64 t232] 60 (0, 0))) := ⟨by rw [← hq_]; exact (by (with_reducible repeat (first | refine blk_drewN ?_ _ | refine blk_drew ?_ | refine blk_alloc ?_ _)); exact BK234.out)⟩; have n8_ : Aside0 (wr.heap[gb235]? = some (.cells #[.bool (eqT23 a1_0 a3_0 a1_1 a3_1 a1_2 a3_2), .bool false, u236002, .slice none 0 0] 34 (0, 0))) := ⟨by rw [← hq_]; exact (by (with_reducible repeat (first | refine blk_drewN ?_ _ | refine blk_drew ?_ | refine blk_alloc ?_ _)); exact BK235.out)⟩; have n9_ : Aside0 (Below w.heap.size w wr) := ⟨by rw [← hq_]; exact (by repeat (first | (with_reducible first | exact HB.out | apply below_alloc | apply pw_below_drewN | apply below_drew1 | refine below_set ?_ GE215.out | refine below_set ?_ GE216.out | refine below_set ?_ GE217.out | refine below_set ?_ GE227.out | refine below_set ?_ GE234.out | refine below_set ?_ GE235.out) | exact HB.out))⟩; clear HO_15 HO_17 HO_236002 BK215 BK216 BK217 BK227 BK234 BK235 HB hq_; have HO_15 := n0_; have HO_17 := n1_; have HO_236002 := n2_; have BK215 := n3_; have BK216 := n4_; have BK217 := n5_; have BK227 := n6_; have BK234 := n7_; have BK235 := n8_; have HB := n9_; clear n0_ n1_ n2_ n3_ n4_ n5_ n6_ n7_ n8_ n9_)); have p250 : 0 ≤ (t245 : Int) := of_decide_eq_true (by first | (with_reducible assumption) | assumption); have q250 : t245 < (l2.length : Int) := of_decide_eq_true (by first | (with_reducible assumption) | assumption); obtain ⟨ad250, e250, hx250_0⟩ := Kd.at_int HR2.out t245 p250 q250; cases e250; replace hx250_0 := (HB.out.cell (World.block_lt_of_cell? w _ hx250_0)).trans hx250_0; replace p250 := eq_true p250; replace q250 := eq_true q250))
              have n0_ := Aside0.mk (Kd.R_drew HO_15.out)
              have n1_ := Aside0.mk (Kd.R_drew HO_17.out)
              have n2_ := Aside0.mk (Kd.R_drew HO_236002.out)
              have n3_ := Aside0.mk (blk_drew BK215.out)
              have n4_ := Aside0.mk (blk_drew BK216.out)
              have n5_ := Aside0.mk (blk_drew BK217.out)
              have n6_ := Aside0.mk (blk_drew BK227.out)
              have n7_ := Aside0.mk (blk_drew BK234.out)
              have n8_ := Aside0.mk (blk_drew BK235.out)
              have n9_ := Aside0.mk (below_drew1 HB.out)
              clear HO_15
              clear HO_17
              clear HO_236002
              clear BK215
              clear BK216
              clear BK217
              clear BK227
              clear BK234
              clear BK235
              clear HB
              have HO_15 := n0_
              have HO_17 := n1_
              have HO_236002 := n2_
              have BK215 := n3_
              have BK216 := n4_
              have BK217 := n5_
              have BK227 := n6_
              have BK234 := n7_
              have BK235 := n8_
              have HB := n9_
              clear n0_ n1_ n2_ n3_ n4_ n5_ n6_ n7_ n8_ n9_
              have p251 : 0 ≤ (x19_2 : Int) := of_decide_eq_true (by first | (with_reducible assumption) | assumption)
              have q251 : x19_2 < (t265.length : Int) := of_decide_eq_true (by first | (with_reducible assumption) | assumption)
              obtain ⟨ad251, e251, hx251_0⟩ := Kd.at_string (Kd.R_reads' HO_17.out).2.2 x19_2 p251 q251
              obtain rfl : ad244 = ad251 := (by injection e251)
              replace p251 := eq_true p251
              replace q251 := eq_true q251
              refine start_ (n := 10) (S := fun w' => w'.cell? ⟨gb235, 0, none⟩ = some (.bool (eqT23 a1_0 a3_0 a1_1 a3_1 a1_2 a3_2)) ∧ w'.cell? ⟨gb235, 1, none⟩ = some (.bool false) ∧ w'.cell? ⟨gb235, 2, none⟩ = some (u236002) ∧ w'.cell? ⟨gb235, 3, none⟩ = some (.slice none 0 0) ∧ w'.cell? (ad244.add (x19_2).toNat) = some (.string (rdOf ByteArray.empty t265 x19_2))) (ds := [7, 9]) #[false, false, false, false, false, false, false, false, false, false] (by kernel_rfl) rfl rfl ⟨(blk_cell BK235.out 0).trans rfl, (blk_cell BK235.out 1).trans rfl, (blk_cell BK235.out 2).trans rfl, (blk_cell BK235.out 3).trans rfl, hx251_0⟩ (fun hHeld => ?_); refine with_tabW gambrelref22_Of.tab13 gambrelref22_Of.bits13 (fun HT_ HW_ => ?_)
              generalize wr.drew = w175 at HO_15 HO_17 HO_236002 BK215 BK216 BK217 BK227 BK234 BK235 HB hx251_0 hHeld ⊢
              refine pure_ (i := 0) (N := some 107) (v := ?_) (a' := ?_) #[true, false, false, false, false, false, false, false, false, false] rfl rfl (any_of HT_.out (by kernel_rfl)) (fun _ _ _ h => h) (Or.inl ⟨by rfl, ?_⟩) ?_ ?_
              rotate_left
              ·intro w'
               go_simp
               with_reducible rfl
              rotate_left
              ·simp only [Act.put, List.setIfInBounds_toArray, List.set_cons_zero, List.set_cons_succ, i64_w, i32_w]
               rfl
              refine pure_ (i := 2) (N := some 109) (v := ?_) (a' := ?_) #[true, false, true, false, false, false, false, false, false, false] rfl rfl (any_of HT_.out (by kernel_rfl)) (fun _ _ _ h => h) (Or.inl ⟨by rfl, ?_⟩) ?_ ?_
              rotate_left
              ·intro w'
               go_simp
               with_reducible rfl
              rotate_left
              ·simp only [Act.put, List.setIfInBounds_toArray, List.set_cons_zero, List.set_cons_succ, i64_w, i32_w]
               rfl
              refine pure_ (i := 3) (N := some 110) (v := ?_) (a' := ?_) #[true, false, true, true, false, false, false, false, false, false] rfl rfl (any_of HT_.out (by kernel_rfl)) (fun _ _ _ h => h) (Or.inl ⟨by rfl, ?_⟩) ?_ ?_
              rotate_left
              ·intro w'
               go_simp
               with_reducible rfl
              rotate_left
              ·simp only [Act.put, List.setIfInBounds_toArray, List.set_cons_zero, List.set_cons_succ, i64_w, i32_w]
               rfl
              refine pure_ (i := 4) (N := some 111) (v := ?_) (a' := ?_) #[true, false, true, true, true, false, false, false, false, false] rfl rfl (any_of HT_.out (by kernel_rfl)) (fun _ _ _ h => h) (Or.inl ⟨by rfl, ?_⟩) ?_ ?_
              rotate_left
              ·intro w'
               go_simp
               with_reducible rfl
              rotate_left
              ·simp only [Act.put, List.setIfInBounds_toArray, List.set_cons_zero, List.set_cons_succ, i64_w, i32_w]
               rfl
              refine take_ (i := 1) (N := some 108) (v := ?_) (a' := ?_) #[true, true, true, true, true, false, false, false, false, false] rfl rfl (take_ofW HT_.out HW_.out (by kernel_rfl)) (fun _ _ _ h => h) (Or.inl ⟨by rfl, ?_⟩) hHeld ?_ ?_
              rotate_left
              ·rintro w' ⟨s0, s1, s2, s3, s4⟩
               go_simp
               with_reducible rfl
              rotate_left
              ·simp only [Act.put, List.setIfInBounds_toArray, List.set_cons_zero, List.set_cons_succ, i64_w, i32_w]
               rfl
              refine take_ (i := 5) (N := some 112) (v := ?_) (a' := ?_) #[true, true, true, true, true, true, false, false, false, false] rfl rfl (take_ofW HT_.out HW_.out (by kernel_rfl)) (fun _ _ _ h => h) (Or.inl ⟨by rfl, ?_⟩) hHeld ?_ ?_
              rotate_left
              ·rintro w' ⟨s0, s1, s2, s3, s4⟩
               go_simp
               with_reducible rfl
              rotate_left
              ·simp only [Act.put, List.setIfInBounds_toArray, List.set_cons_zero, List.set_cons_succ, i64_w, i32_w]
               rfl
              refine one_ (i := 6) (N := some 113) #[true, true, true, true, true, true, true, false, false, false] rfl rfl (one_of HT_.out (by kernel_rfl)) (by decide) (fun K hK => ?_)
              refine value_ (w1 := ?_) (v := ?_) (by rfl) rfl ?_ ?_
              rotate_left 2
              ·go_simp
               constructor
               ·rfl
               ·rfl
              refine hK.out _ _ ⟨(blk_cell (blk_alloc BK235.out _) 0).trans rfl, (blk_cell (blk_alloc BK235.out _) 1).trans rfl, (blk_cell (blk_alloc BK235.out _) 2).trans rfl, (blk_cell (blk_alloc BK235.out _) 3).trans rfl, (World.cell?_alloc_lt _ _ _ (World.block_lt_of_cell? _ _ (hHeld.2.2.2.2))).trans (hHeld.2.2.2.2)⟩ (fun hHeld => ?_)
              clear hK K
              refine norm_ (a' := ?_) ?_ ?_
              rotate_left
              ·show Act.put _ (some 113) _ = _
               simp only [Act.put, List.setIfInBounds_toArray, List.set_cons_zero, List.set_cons_succ, i64_w, i32_w]
               rfl
              refine last_ (i := 7) (N := some 114) #[true, true, true, true, true, true, true, true, false, false] rfl rfl (one_of HT_.out (by kernel_rfl)) (by decide) (fun K hK => ?_)
              refine Kd.R_append_step Kd.string (w0 := w) w.heap.size (by rfl) (.tmp 108) (.tmp 113) 28 9 (.string ⟨#[]⟩) 16 rfl Tryd.underlying28 info9 rfl (by decide) (by omega) u236002 x236002_2 (rdOf ByteArray.empty t265 x19_2) [.string (rdOf ByteArray.empty t265 x19_2)] (fun k_ => some k_ ≠ (.slice Ao174 t261.length co174 : Value).ownBlock ∧ some k_ ≠ (.slice (some ad244) t265.length co173 : Value).ownBlock) (fun _ => False) rfl rfl ?aP (fun _ hk => hk.elim) ?aF ?aO ?aB ?aS ?aL ?_
              (case aP => exact rfl)
              (case aB => exact (by repeat (first | (with_reducible first | exact HB.out | apply below_alloc | apply pw_below_drewN | apply below_drew1 | refine below_set ?_ GE215.out | refine below_set ?_ GE216.out | refine below_set ?_ GE217.out | refine below_set ?_ GE227.out | refine below_set ?_ GE234.out | refine below_set ?_ GE235.out) | exact HB.out)))
              (case aF => exact (fun k_ hk => ⟨Kd.fresh' (Kd.R_lt (by (with_reducible repeat (first | apply Kd.R_alloc | apply Kd.R_drewN | apply Kd.R_drew)); exact HO_15.out)) k_ hk, Kd.fresh' (Kd.R_lt (by (with_reducible repeat (first | apply Kd.R_alloc | apply Kd.R_drewN | apply Kd.R_drew)); exact HO_17.out)) k_ hk⟩))
              (case aO => exact (by (with_reducible repeat (first | apply Kd.R_alloc | apply Kd.R_drewN | apply Kd.R_drew)); exact HO_236002.out))
              (case aS => exact (below_size (by repeat (first | (with_reducible first | exact HB.out | apply below_alloc | apply pw_below_drewN | apply below_drew1 | refine below_set ?_ GE215.out | refine below_set ?_ GE216.out | refine below_set ?_ GE217.out | refine below_set ?_ GE227.out | refine below_set ?_ GE234.out | refine below_set ?_ GE235.out) | exact HB.out))))
              (case aL => have := LMc172.out; omega)
              intro v253 w176 ho hb hg hat
              rw [← Ny252.out] at ho
              have n0_ := Aside0.mk (Kd.R_after (ok := (fun k_ => some k_ ≠ (.slice (some ad244) t265.length co173 : Value).ownBlock)) (by (with_reducible repeat (first | apply Kd.R_alloc | apply Kd.R_drewN | apply Kd.R_drew)); exact HO_15.out) hg hat)
              have n1_ := Aside0.mk (Kd.R_after (ok := (fun k_ => some k_ ≠ (.slice Ao174 t261.length co174 : Value).ownBlock)) (by (with_reducible repeat (first | apply Kd.R_alloc | apply Kd.R_drewN | apply Kd.R_drew)); exact HO_17.out) hg hat)
              have n2_ := Aside0.mk (blk_grown (g := gb215) (o := .cells #[.int .i64 a1_0, .int .i64 a1_1, .int .i64 a1_2] 23 (0, 0)) (by (with_reducible repeat (first | refine blk_drewN ?_ _ | refine blk_drew ?_ | refine blk_alloc ?_ _)); exact BK215.out) hg (Kd.R_ne HO_236002.out BK215.out (by decide)))
              have n3_ := Aside0.mk (blk_grown (g := gb216) (o := .cells #[.int .i64 a3_0, .int .i64 a3_1, .int .i64 a3_2] 23 (0, 0)) (by (with_reducible repeat (first | refine blk_drewN ?_ _ | refine blk_drew ?_ | refine blk_alloc ?_ _)); exact BK216.out) hg (Kd.R_ne HO_236002.out BK216.out (by decide)))
              have n4_ := Aside0.mk (blk_grown (g := gb217) (o := .cells #[.bool false, .bool false, .slice none 0 0, .slice none 0 0] 34 (0, 0)) (by (with_reducible repeat (first | refine blk_drewN ?_ _ | refine blk_drew ?_ | refine blk_alloc ?_ _)); exact BK217.out) hg (Kd.R_ne HO_236002.out BK217.out (by decide)))
              have n5_ := Aside0.mk (blk_grown (g := gb227) (o := .cells #[.string t221, .int .i64 t222, .int .u32 t223, .int .u8 t224, .int .i64 t225] 60 (0, 0)) (by (with_reducible repeat (first | refine blk_drewN ?_ _ | refine blk_drew ?_ | refine blk_alloc ?_ _)); exact BK227.out) hg (Kd.R_ne HO_236002.out BK227.out (by decide)))
              have n6_ := Aside0.mk (blk_grown (g := gb234) (o := .cells #[.string t228, .int .i64 t229, .int .u32 t230, .int .u8 t231, .int .i64 t232] 60 (0, 0)) (by (with_reducible repeat (first | refine blk_drewN ?_ _ | refine blk_drew ?_ | refine blk_alloc ?_ _)); exact BK234.out) hg (Kd.R_ne HO_236002.out BK234.out (by decide)))
              have n7_ := Aside0.mk (blk_grown (g := gb235) (o := .cells #[.bool (eqT23 a1_0 a3_0 a1_1 a3_1 a1_2 a3_2), .bool false, u236002, .slice none 0 0] 34 (0, 0)) (by (with_reducible repeat (first | refine blk_drewN ?_ _ | refine blk_drew ?_ | refine blk_alloc ?_ _)); exact BK235.out) hg (Kd.R_ne HO_236002.out BK235.out (by decide)))
              have n8_ := Aside0.mk (hb)
              have n9_ := Aside0.mk (ho)
              clear HO_15
              clear HO_17
              clear BK215
              clear BK216
              clear BK217
              clear BK227
              clear BK234
              clear BK235
              clear HB
              clear HO_236002
              have HO_15 := n0_
              have HO_17 := n1_
              have BK215 := n2_
              have BK216 := n3_
              have BK217 := n4_
              have BK227 := n5_
              have BK234 := n6_
              have BK235 := n7_
              have HB := n8_
              have HO254 := n9_
              clear n0_ n1_ n2_ n3_ n4_ n5_ n6_ n7_ n8_ n9_
              clear ho hb hg hat
              obtain ⟨Ao177, co177, eo177⟩ := Kd.R_slice HO254.out
              (first | subst eo177 | (injection eo177 with f1_ f2_ f3_; have f4_ := f1_.symm; have f5_ := f3_.symm; clear f1_ f2_ f3_; subst f4_; subst f5_))
              refine hK.out _ _ ?_
              clear hK K
              refine norm_ (a' := ?_) ?_ ?_
              rotate_left
              ·show Act.put _ (some 114) _ = _
               simp only [Act.put, List.setIfInBounds_toArray, List.set_cons_zero, List.set_cons_succ, i64_w, i32_w]
               rfl
              refine pure_ (i := 8) (N := some 115) (v := ?_) (a' := ?_) #[true, true, true, true, true, true, true, true, true, false] rfl rfl (any_of HT_.out (by kernel_rfl)) (fun _ _ _ h => h) (Or.inl ⟨by rfl, ?_⟩) ?_ ?_
              rotate_left
              ·intro w'
               go_simp
               with_reducible rfl
              rotate_left
              ·simp only [Act.put, List.setIfInBounds_toArray, List.set_cons_zero, List.set_cons_succ, i64_w, i32_w]
               rfl
              refine last_ (i := 9) (N := none) #[true, true, true, true, true, true, true, true, true, true] rfl rfl (one_of HT_.out (by kernel_rfl)) (by decide) (fun K hK => ?_)
              have hs178 : w176.cell? ⟨gb235, 2, none⟩ = some (u236002) := (blk_cell BK235.out 2).trans rfl
              have hfs178 := blk_frozen BK235.out 2
              have hns178_0 := NB215_235.out
              have hns178_1 := NB216_235.out
              have hns178_2 := NB217_235.out
              have hns178_3 := NB227_235.out
              have hns178_4 := NB234_235.out
              have hms178_0 := NB235_215.out
              have hms178_1 := NB235_216.out
              have hms178_2 := NB235_217.out
              have hms178_3 := NB235_227.out
              have hms178_4 := NB235_234.out
              refine skip_ (w1 := ?_) (by rfl) rfl ?_ ?_
              rotate_left
              ·go_simp
               rfl
              refine hK.out _ _ ?_
              clear hK K
              refine done_ (done_of HT_.out (by kernel_rfl)) ?_
              try go_wp2
              go_roundg k2
              case measure => have := HJ4.out; have := HK2.out; omega
              case rel => exact ⟨(wrap64 (x19_2 + 1)), (y252), (.slice Ao177 y252.length co177), (by first | rfl | (simp; done) | (simp [*]; done)), H', ⟨by have := HJ4.out; have := HK2.out; omega⟩, ⟨by (with_reducible repeat (first | apply Kd.R_alloc | apply Kd.R_drewN | apply Kd.R_drew)); exact Kd.R_mono (Kd.R_far (p := ⟨gb235, 2, none⟩) (Kd.R_types HO_15.out BK235.out (by decide)) (fun _ hk => hk.2) (.slice Ao177 y252.length co177)) (fun _ hk => ⟨hk.1.1, hk.1.2⟩)⟩, ⟨by (with_reducible repeat (first | apply Kd.R_alloc | apply Kd.R_drewN | apply Kd.R_drew)); exact Kd.R_mono (Kd.R_far (p := ⟨gb235, 2, none⟩) (Kd.R_types HO_17.out BK235.out (by decide)) (fun _ hk => hk.2) (.slice Ao177 y252.length co177)) (fun _ hk => ⟨hk.1.1, hk.1.2⟩)⟩, ⟨by (with_reducible repeat (first | apply Kd.R_alloc | apply Kd.R_drewN | apply Kd.R_drew)); exact Kd.R_mono (Kd.R_far (p := ⟨gb235, 2, none⟩) (Kd.R_types HO254.out BK235.out (by decide)) (fun _ hk => hk.2) (.slice Ao177 y252.length co177)) (fun _ hk => ⟨hk.1.1, hk.1.2⟩)⟩, ⟨by (with_reducible repeat (first | refine blk_drewN ?_ _ | refine blk_drew ?_ | refine blk_alloc ?_ _)); refine blk_far ?_ NB215_235.out _; (with_reducible repeat (first | refine blk_drewN ?_ _ | refine blk_drew ?_ | refine blk_alloc ?_ _)); exact BK215.out⟩, ⟨by (with_reducible repeat (first | refine blk_drewN ?_ _ | refine blk_drew ?_ | refine blk_alloc ?_ _)); refine blk_far ?_ NB216_235.out _; (with_reducible repeat (first | refine blk_drewN ?_ _ | refine blk_drew ?_ | refine blk_alloc ?_ _)); exact BK216.out⟩, ⟨by (with_reducible repeat (first | refine blk_drewN ?_ _ | refine blk_drew ?_ | refine blk_alloc ?_ _)); refine blk_far ?_ NB217_235.out _; (with_reducible repeat (first | refine blk_drewN ?_ _ | refine blk_drew ?_ | refine blk_alloc ?_ _)); exact BK217.out⟩, ⟨by (with_reducible repeat (first | refine blk_drewN ?_ _ | refine blk_drew ?_ | refine blk_alloc ?_ _)); refine blk_far ?_ NB227_235.out _; (with_reducible repeat (first | refine blk_drewN ?_ _ | refine blk_drew ?_ | refine blk_alloc ?_ _)); exact BK227.out⟩, ⟨by (with_reducible repeat (first | refine blk_drewN ?_ _ | refine blk_drew ?_ | refine blk_alloc ?_ _)); refine blk_far ?_ NB234_235.out _; (with_reducible repeat (first | refine blk_drewN ?_ _ | refine blk_drew ?_ | refine blk_alloc ?_ _)); exact BK234.out⟩, ⟨by (with_reducible repeat (first | refine blk_drewN ?_ _ | refine blk_drew ?_ | refine blk_alloc ?_ _)); refine blk_put (cs := #[.bool (eqT23 a1_0 a3_0 a1_1 a3_1 a1_2 a3_2), .bool false, u236002, .slice none 0 0]) ?_ 2 _ rfl; (with_reducible repeat (first | refine blk_drewN ?_ _ | refine blk_drew ?_ | refine blk_alloc ?_ _)); exact BK235.out⟩, ⟨by repeat (first | (with_reducible first | exact HB.out | apply below_alloc | apply pw_below_drewN | apply below_drew1 | refine below_set ?_ GE215.out | refine below_set ?_ GE216.out | refine below_set ?_ GE217.out | refine below_set ?_ GE227.out | refine below_set ?_ GE234.out | refine below_set ?_ GE235.out) | exact HB.out)⟩⟩
             ·rw [if_neg c172] at H
              exact absurd H (by simp)
           ·rw [if_neg c168] at H
            exact absurd H (by simp)
          ·rw [if_neg c167] at H
           exact absurd H (by simp)
        ·rw [if_neg c157] at H
         exact absurd H (by simp)
       ·rw [if_neg c156] at H
        have c156b0 : decide (x19_2 < (t265.length : Int)) = false := decide_eq_false c156
        clear c156
        have H' := Aside0.mk H
        clear H
        obtain ⟨Ao179, co179, eo179⟩ := Kd.R_slice HO_17.out
        subst eo179
        go_wp2
        go_loopg [21] k2 (fun kq v21 w' => ∃ (x21_3 : Int) (x236003_3 : List ByteArray) (u236003 : Value), v21 = .int .i64 x21_3 ∧ Aside0 (gambrelref22_Of.l1 kq t261 t265 x21_3 (eqT23 a1_0 a3_0 a1_1 a3_1 a1_2 a3_2) false x236002_2 x236003_3 = some (r1, r2, r3, r4, r5)) ∧ Aside0 (kq ≤ k2) ∧ Aside0 (Kd.R Kd.string 9 w' w.heap.size (fun k_ => some k_ ≠ ((.slice Ao179 t265.length co179) : Value).ownBlock ∧ some k_ ≠ (u236002 : Value).ownBlock ∧ some k_ ≠ (u236003 : Value).ownBlock) v262 t261) ∧ Aside0 (Kd.R Kd.string 9 w' w.heap.size (fun k_ => some k_ ≠ (v262 : Value).ownBlock ∧ some k_ ≠ (u236002 : Value).ownBlock ∧ some k_ ≠ (u236003 : Value).ownBlock) (.slice Ao179 t265.length co179) t265) ∧ Aside0 (Kd.R Kd.string 9 w' w.heap.size (fun k_ => some k_ ≠ (v262 : Value).ownBlock ∧ some k_ ≠ ((.slice Ao179 t265.length co179) : Value).ownBlock ∧ some k_ ≠ (u236003 : Value).ownBlock) u236002 x236002_2) ∧ Aside0 (Kd.R Kd.string 9 w' w.heap.size (fun k_ => some k_ ≠ (v262 : Value).ownBlock ∧ some k_ ≠ ((.slice Ao179 t265.length co179) : Value).ownBlock ∧ some k_ ≠ (u236002 : Value).ownBlock) u236003 x236003_3) ∧ Aside0 (w'.heap[gb215]? = some (.cells #[.int .i64 a1_0, .int .i64 a1_1, .int .i64 a1_2] 23 (0, 0))) ∧ Aside0 (w'.heap[gb216]? = some (.cells #[.int .i64 a3_0, .int .i64 a3_1, .int .i64 a3_2] 23 (0, 0))) ∧ Aside0 (w'.heap[gb217]? = some (.cells #[.bool false, .bool false, (.slice none 0 0), (.slice none 0 0)] 34 (0, 0))) ∧ Aside0 (w'.heap[gb227]? = some (.cells #[.string t221, .int .i64 t222, .int .u32 t223, .int .u8 t224, .int .i64 t225] 60 (0, 0))) ∧ Aside0 (w'.heap[gb234]? = some (.cells #[.string t228, .int .i64 t229, .int .u32 t230, .int .u8 t231, .int .i64 t232] 60 (0, 0))) ∧ Aside0 (w'.heap[gb235]? = some (.cells #[.bool (eqT23 a1_0 a3_0 a1_1 a3_1 a1_2 a3_2), .bool false, u236002, u236003] 34 (0, 0))) ∧ Aside0 (Below w.heap.size w w'))
        case atStart => exact ⟨(0), (([] : List ByteArray)), (.slice none 0 0), (by first | rfl | (simp; done) | (simp [*]; done)), H', ⟨Nat.le_refl _⟩, ⟨by (with_reducible repeat (first | apply Kd.R_alloc | apply Kd.R_drewN | apply Kd.R_drew)); exact Kd.R_mono HO_15.out (fun _ hk => ⟨hk.1, ⟨hk.2, (by simp [Value.ownBlock])⟩⟩)⟩, ⟨by (with_reducible repeat (first | apply Kd.R_alloc | apply Kd.R_drewN | apply Kd.R_drew)); exact Kd.R_mono HO_17.out (fun _ hk => ⟨hk.1, ⟨hk.2, (by simp [Value.ownBlock])⟩⟩)⟩, ⟨by (with_reducible repeat (first | apply Kd.R_alloc | apply Kd.R_drewN | apply Kd.R_drew)); exact Kd.R_mono HO_236002.out (fun _ hk => ⟨hk.1, ⟨hk.2, (by simp [Value.ownBlock])⟩⟩)⟩, ⟨by first | exact Kd.R_nil _ _ _ _ _ | exact Kd.N_nil _ _ _ _ _ | exact Kd.V_nil _ _ _ _ _ | exact Kd.Q_nil _ _ _ _ _ | exact Kd.S_nil _ _ _ _ _⟩, ⟨by (with_reducible repeat (first | refine blk_drewN ?_ _ | refine blk_drew ?_ | refine blk_alloc ?_ _)); exact BK215.out⟩, ⟨by (with_reducible repeat (first | refine blk_drewN ?_ _ | refine blk_drew ?_ | refine blk_alloc ?_ _)); exact BK216.out⟩, ⟨by (with_reducible repeat (first | refine blk_drewN ?_ _ | refine blk_drew ?_ | refine blk_alloc ?_ _)); exact BK217.out⟩, ⟨by (with_reducible repeat (first | refine blk_drewN ?_ _ | refine blk_drew ?_ | refine blk_alloc ?_ _)); exact BK227.out⟩, ⟨by (with_reducible repeat (first | refine blk_drewN ?_ _ | refine blk_drew ?_ | refine blk_alloc ?_ _)); exact BK234.out⟩, ⟨by (with_reducible repeat (first | refine blk_drewN ?_ _ | refine blk_drew ?_ | refine blk_alloc ?_ _)); exact BK235.out⟩, ⟨by repeat (first | (with_reducible first | exact HB.out | apply below_alloc | apply pw_below_drewN | apply below_drew1 | refine below_set ?_ GE215.out | refine below_set ?_ GE216.out | refine below_set ?_ GE217.out | refine below_set ?_ GE227.out | refine below_set ?_ GE234.out | refine below_set ?_ GE235.out) | exact HB.out)⟩⟩
        case round =>
         clear H'
         try clear c1
         try clear c2
         try clear p2
         try clear q2
         try clear hx2
         try clear c4
         try clear p6
         try clear c9
         try clear c10
         try clear c11
         try clear c12
         try clear c13
         try clear c14
         try clear c15
         try clear c16
         try clear c17
         try clear c24
         try clear p24
         try clear q24
         try clear hx24
         try clear c25
         try clear p25
         try clear q25
         try clear hx25
         try clear c40
         try clear c40b0
         try clear c40b1
         try clear p64
         try clear c98
         try clear c98b0
         try clear c99
         try clear c99b0
         try clear c101
         try clear c101b0
         try clear c102
         try clear c110
         try clear c111
         try clear c112
         try clear c113
         try clear c114
         try clear c116
         try clear c117
         try clear c118
         try clear c119
         try clear c125
         try clear c126
         try clear c130
         try clear c131
         try clear c132
         try clear c134
         try clear c138
         try clear c139
         try clear c140
         try clear c141
         try clear c150
         try clear c153
         try clear c156
         try clear c156b0
         try clear c157
         try clear c157b0
         try clear c159
         try clear c159b0
         try clear c160
         try clear c167
         try clear c167b0
         try clear c168
         try clear c168b0
         try clear c169
         try clear c169b0
         try clear c169b1
         try clear c172
         try clear hcz115_0
         try clear hcz115_1
         try clear hcz115_2
         try clear hcz115_3
         try clear hcz120_0
         try clear hcz120_1
         try clear hcz120_2
         try clear hcz120_3
         try clear hcz127_0
         try clear hcz127_1
         try clear hcz127_2
         try clear hcz133_0
         try clear hcz133_1
         try clear hcz133_2
         try clear hcz133_3
         try clear hcz133_4
         try clear hcz135_0
         try clear hcz135_1
         try clear hcz135_2
         try clear hcz142_0
         try clear hcz142_1
         try clear hcz142_2
         try clear hcz142_3
         try clear hcz142_4
         try clear hcz151_0
         try clear hcz151_1
         try clear hcz151_2
         try clear hcz154_0
         try clear hcz154_1
         try clear hcz154_2
         try clear hfz115_0
         try clear hfz115_1
         try clear hfz115_2
         try clear hfz115_3
         try clear hfz120_0
         try clear hfz120_1
         try clear hfz120_2
         try clear hfz120_3
         try clear hfz127_0
         try clear hfz127_1
         try clear hfz127_2
         try clear hfz133_0
         try clear hfz133_1
         try clear hfz133_2
         try clear hfz133_3
         try clear hfz133_4
         try clear hfz135_0
         try clear hfz135_1
         try clear hfz135_2
         try clear hfz142_0
         try clear hfz142_1
         try clear hfz142_2
         try clear hfz142_3
         try clear hfz142_4
         try clear hfz151_0
         try clear hfz151_1
         try clear hfz151_2
         try clear hfz154_0
         try clear hfz154_1
         try clear hfz154_2
         try clear hx244_0
         try clear hx246_0
         try clear hx250_0
         try clear hx251_0
         try clear hx255_0
         try clear hx257_0
         try clear p244
         try clear p246
         try clear p25
         try clear p250
         try clear p251
         try clear p255
         try clear p257
         try clear p64
         try clear q244
         try clear q246
         try clear q25
         try clear q250
         try clear q251
         try clear q255
         try clear q257
         obtain ⟨x21_3, x236003_3, u236003, rfl, HA, HK3, HO_15, HO_17, HO_236002, HO_236003, BK215, BK216, BK217, BK227, BK234, BK235, HB⟩ := hrel
         cases gk with
         | zero => exact absurd HA.out (by simp [gambrelref22_Of.l1])
         | succ k3 =>
          have H := HA.out
          clear HA
          simp only [gambrelref22_Of.l1] at H
          by_cases c180 : x21_3 < (t261.length : Int)
          ·rw [if_pos c180] at H
           have c180b0 : decide (x21_3 < (t261.length : Int)) = true := decide_eq_true c180
           clear c180
           by_cases c181 : 0 ≤ x21_3
           ·rw [if_pos c181] at H
            have c181b0 : decide (0 ≤ x21_3) = true := decide_eq_true c181
            clear c181
            replace H := Option.bind_eq_some_iff.mp H
            obtain ⟨t256, A1820, H⟩ := H
            replace H : (if t256 < 0 then (if x236003_3.length < 8796093022208 then (gambrelref22_Of.l1 k3 t261 t265 (wrap64 (x21_3 + 1)) (eqT23 a1_0 a3_0 a1_1 a3_1 a1_2 a3_2) false x236002_2 (x236003_3 ++ [rdOf ByteArray.empty t261 x21_3])) else (none)) else (gambrelref22_Of.l1 k3 t261 t265 (wrap64 (x21_3 + 1)) (eqT23 a1_0 a3_0 a1_1 a3_1 a1_2 a3_2) false x236002_2 x236003_3)) = some (r1, r2, r3, r4, r5) := H
            have A182 := Aside0.mk A1820
            clear A1820
            by_cases c183 : t256 < 0
            ·rw [if_pos c183] at H
             have c183b0 : decide (t256 < 0) = true := decide_eq_true c183
             clear c183
             by_cases c184 : x236003_3.length < 8796093022208
             ·rw [if_pos c184] at H
              have LMc184 := Aside0.mk c184
              clear c184
              obtain ⟨y258, hy258⟩ : ∃ y_ : List ByteArray, y_ = (x236003_3 ++ [rdOf ByteArray.empty t261 x21_3]) := ⟨_, rfl⟩
              replace H : (gambrelref22_Of.l1 k3 t261 t265 (wrap64 (x21_3 + 1)) (eqT23 a1_0 a3_0 a1_1 a3_1 a1_2 a3_2) false x236002_2 y258) = some (r1, r2, r3, r4, r5) := by first | (rw [hy258]; with_reducible exact H) | (have H2_ := (Option.bind_some _ _).symm.trans H; rw [hy258]; with_reducible exact H2_) | (have H2_ := (Option.bind_some _ _).symm.trans H; with_reducible exact H2_) | with_reducible exact H | (rw [hy258]; exact H) | exact H
              have Ny258 := Aside0.mk hy258
              clear hy258
              have H' := Aside0.mk H
              clear H
              obtain ⟨Ao185, co185, eo185⟩ := Kd.R_slice HO_15.out
              subst eo185
              have p255 : 0 ≤ (x21_3 : Int) := of_decide_eq_true (by first | (with_reducible assumption) | assumption)
              have q255 : x21_3 < (t261.length : Int) := of_decide_eq_true (by first | (with_reducible assumption) | assumption)
              obtain ⟨ad255, e255, hx255_0⟩ := Kd.at_string (Kd.R_reads' HO_15.out).2.2 x21_3 p255 q255
              cases e255
              replace p255 := eq_true p255
              replace q255 := eq_true q255
              try go_wp2_with (first | ((with_reducible refine gate_callee (f := 25) rfl ?_); refine goesL_ (some 127) rfl rfl Tryd.func25 (by kernel_rfl) rfl #[.slice Ao179 t265.length co179, .string (rdOf ByteArray.empty t261 x21_3)] rfl (by (try simp only [List.map_toArray, List.map_cons, List.map_nil]); first | done | rfl | (simp only [List.length_drop, List.length_take]; rfl)) ?_; (with_reducible refine (gambrelref22_at.calls k3 _ _ t265 (rdOf ByteArray.empty t261 x21_3) t256 _ ?side1 ?side2 A182.out).mono ?_); (case side1 => repeat (first | exact (Kd.R_reads' HO_17.out).2.2 | (with_reducible refine Kd.C_alloc ?_ _) | (with_reducible refine Kd.C_drewN ?_ _) | (with_reducible refine Kd.C_drew ?_))); (case side2 => exact (Kd.R_reads' HO_17.out).2.1); rintro e w' ⟨rfl, ⟨nd, rfl⟩⟩; refine ⟨_, rfl, ?_⟩; (try (rw [drewN_self wr]; generalize hq_ : World.drewN wr _ = wr; have n0_ : Aside0 (Kd.R Kd.string 9 wr w.heap.size (fun k_ => some k_ ≠ (.slice Ao179 t265.length co179 : Value).ownBlock ∧ some k_ ≠ (u236002 : Value).ownBlock ∧ some k_ ≠ (u236003 : Value).ownBlock) (.slice (some ad255) t261.length co185) t261) := ⟨by rw [← hq_]; exact (by (with_reducible repeat (first | apply Kd.R_alloc | apply Kd.R_drewN | apply Kd.R_drew)); exact HO_15.out)⟩; have n1_ : Aside0 (Kd.R Kd.string 9 wr w.heap.size (fun k_ => some k_ ≠ (.slice (some ad255) t261.length co185 : Value).ownBlock ∧ some k_ ≠ (u236002 : Value).ownBlock ∧ some k_ ≠ (u236003 : Value).ownBlock) (.slice Ao179 t265.length co179) t265) := ⟨by rw [← hq_]; exact (by (with_reducible repeat (first | apply Kd.R_alloc | apply Kd.R_drewN | apply Kd.R_drew)); exact HO_17.out)⟩; have n2_ : Aside0 (Kd.R Kd.string 9 wr w.heap.size (fun k_ => some k_ ≠ (.slice (some ad255) t261.length co185 : Value).ownBlock ∧ some k_ ≠ (.slice Ao179 t265.length co179 : Value).ownBlock ∧ some k_ ≠ (u236003 : Value).ownBlock) u236002 x236002_2) := ⟨by rw [← hq_]; exact (by (with_reducible repeat (first | apply Kd.R_alloc | apply Kd.R_drewN | apply Kd.R_drew)); exact HO_236002.out)⟩; have n3_ : Aside0 (Kd.R Kd.string 9 wr w.heap.size (fun k_ => some k_ ≠ (.slice (some ad255) t261.length co185 : Value).ownBlock ∧ some k_ ≠ (.slice Ao179 t265.length co179 : Value).ownBlock ∧ some k_ ≠ (u236002 : Value).ownBlock) u236003 x236003_3) := ⟨by rw [← hq_]; exact (by (with_reducible repeat (first | apply Kd.R_alloc | apply Kd.R_drewN | apply Kd.R_drew)); exact HO_236003.out)⟩; have n4_ : Aside0 (wr.heap[gb215]? = some (.cells #[.int .i64 a1_0, .int .i64 a1_1, .int .i64 a1_2] 23 (0, 0))) := ⟨by rw [← hq_]; exact (by (with_reducible repeat (first | refine blk_drewN ?_ _ | refine blk_drew ?_ | refine blk_alloc ?_ _)); exact BK215.out)⟩; have n5_ : Aside0 (wr.heap[gb216]? = some (.cells #[.int .i64 a3_0, .int .i64 a3_1, .int .i64 a3_2] 23 (0, 0))) := ⟨by rw [← hq_]; exact (by (with_reducible repeat (first | refine blk_drewN ?_ _ | refine blk_drew ?_ | refine blk_alloc ?_ _)); exact BK216.out)⟩; have n6_ : Aside0 (wr.heap[gb217]? = some (.cells #[.bool false, .bool false, .slice none 0 0, .slice none 0 0] 34 (0, 0))) := ⟨by rw [← hq_]; exact (by (with_reducible repeat (first | refine blk_drewN ?_ _ | refine blk_drew ?_ | refine blk_alloc ?_ _)); exact BK217.out)⟩; have n7_ : Aside0 (wr.heap[gb227]? = some (.cells #[.string t221, .int .i64 t222, .int .u32 t223, .int .u8 t224, .int .i64 t225] 60 (0, 0))) := ⟨by rw [← hq_]; exact (by (with_reducible repeat (first | refine blk_drewN ?_ _ | refine blk_drew ?_ | refine blk_alloc ?_ _)); exact BK227.out)⟩; have n8_ : Aside0 (wr.heap[gb234]? = some (.cells #[.string t228, .int .i64 t229, .int .u32 t230, .int .u8 t231, .int .i64 t232] 60 (0, 0))) := ⟨by rw [← hq_]; exact (by (with_reducible repeat (first | refine blk_drewN ?_ _ | refine blk_drew ?_ | refine blk_alloc ?_ _)); exact BK234.out)⟩; have n9_ : Aside0 (wr.heap[gb235]? = some (.cells #[.bool (eqT23 a1_0 a3_0 a1_1 a3_1 a1_2 a3_2), .bool false, u236002, u236003] 34 (0, 0))) := ⟨by rw [← hq_]; exact (by (with_reducible repeat (first | refine blk_drewN ?_ _ | refine blk_drew ?_ | refine blk_alloc ?_ _)); exact BK235.out)⟩; have n10_ : Aside0 (Below w.heap.size w wr) := ⟨by rw [← hq_]; exact (by repeat (first | (with_reducible first | exact HB.out | apply below_alloc | apply pw_below_drewN | apply below_drew1 | refine below_set ?_ GE215.out | refine below_set ?_ GE216.out | refine below_set ?_ GE217.out | refine below_set ?_ GE227.out | refine below_set ?_ GE234.out | refine below_set ?_ GE235.out) | exact HB.out))⟩; clear HO_15 HO_17 HO_236002 HO_236003 BK215 BK216 BK217 BK227 BK234 BK235 HB hq_; have HO_15 := n0_; have HO_17 := n1_; have HO_236002 := n2_; have HO_236003 := n3_; have BK215 := n4_; have BK216 := n5_; have BK217 := n6_; have BK227 := n7_; have BK234 := n8_; have BK235 := n9_; have HB := n10_; clear n0_ n1_ n2_ n3_ n4_ n5_ n6_ n7_ n8_ n9_ n10_))))
              have n0_ := Aside0.mk (Kd.R_drew HO_15.out)
              have n1_ := Aside0.mk (Kd.R_drew HO_17.out)
              have n2_ := Aside0.mk (Kd.R_drew HO_236002.out)
              have n3_ := Aside0.mk (Kd.R_drew HO_236003.out)
              have n4_ := Aside0.mk (blk_drew BK215.out)
              have n5_ := Aside0.mk (blk_drew BK216.out)
              have n6_ := Aside0.mk (blk_drew BK217.out)
              have n7_ := Aside0.mk (blk_drew BK227.out)
              have n8_ := Aside0.mk (blk_drew BK234.out)
              have n9_ := Aside0.mk (blk_drew BK235.out)
              have n10_ := Aside0.mk (below_drew1 HB.out)
              clear HO_15
              clear HO_17
              clear HO_236002
              clear HO_236003
              clear BK215
              clear BK216
              clear BK217
              clear BK227
              clear BK234
              clear BK235
              clear HB
              have HO_15 := n0_
              have HO_17 := n1_
              have HO_236002 := n2_
              have HO_236003 := n3_
              have BK215 := n4_
              have BK216 := n5_
              have BK217 := n6_
              have BK227 := n7_
              have BK234 := n8_
              have BK235 := n9_
              have HB := n10_
              clear n0_ n1_ n2_ n3_ n4_ n5_ n6_ n7_ n8_ n9_ n10_
              have p257 : 0 ≤ (x21_3 : Int) := of_decide_eq_true (by first | (with_reducible assumption) | assumption)
              have q257 : x21_3 < (t261.length : Int) := of_decide_eq_true (by first | (with_reducible assumption) | assumption)
              obtain ⟨ad257, e257, hx257_0⟩ := Kd.at_string (Kd.R_reads' HO_15.out).2.2 x21_3 p257 q257
              obtain rfl : ad255 = ad257 := (by injection e257)
              replace p257 := eq_true p257
              replace q257 := eq_true q257
              refine start_ (n := 10) (S := fun w' => w'.cell? ⟨gb235, 0, none⟩ = some (.bool (eqT23 a1_0 a3_0 a1_1 a3_1 a1_2 a3_2)) ∧ w'.cell? ⟨gb235, 1, none⟩ = some (.bool false) ∧ w'.cell? ⟨gb235, 2, none⟩ = some (u236002) ∧ w'.cell? ⟨gb235, 3, none⟩ = some (u236003) ∧ w'.cell? (ad255.add (x21_3).toNat) = some (.string (rdOf ByteArray.empty t261 x21_3))) (ds := [7, 9]) #[false, false, false, false, false, false, false, false, false, false] (by kernel_rfl) rfl rfl ⟨(blk_cell BK235.out 0).trans rfl, (blk_cell BK235.out 1).trans rfl, (blk_cell BK235.out 2).trans rfl, (blk_cell BK235.out 3).trans rfl, hx257_0⟩ (fun hHeld => ?_); refine with_tabW gambrelref22_Of.tab18 gambrelref22_Of.bits18 (fun HT_ HW_ => ?_)
              generalize wr.drew = w186 at HO_15 HO_17 HO_236002 HO_236003 BK215 BK216 BK217 BK227 BK234 BK235 HB hx257_0 hHeld ⊢
              refine pure_ (i := 0) (N := some 129) (v := ?_) (a' := ?_) #[true, false, false, false, false, false, false, false, false, false] rfl rfl (any_of HT_.out (by kernel_rfl)) (fun _ _ _ h => h) (Or.inl ⟨by rfl, ?_⟩) ?_ ?_
              rotate_left
              ·intro w'
               go_simp
               with_reducible rfl
              rotate_left
              ·simp only [Act.put, List.setIfInBounds_toArray, List.set_cons_zero, List.set_cons_succ, i64_w, i32_w]
               rfl
              refine pure_ (i := 2) (N := some 131) (v := ?_) (a' := ?_) #[true, false, true, false, false, false, false, false, false, false] rfl rfl (any_of HT_.out (by kernel_rfl)) (fun _ _ _ h => h) (Or.inl ⟨by rfl, ?_⟩) ?_ ?_
              rotate_left
              ·intro w'
               go_simp
               with_reducible rfl
              rotate_left
              ·simp only [Act.put, List.setIfInBounds_toArray, List.set_cons_zero, List.set_cons_succ, i64_w, i32_w]
               rfl
              refine pure_ (i := 3) (N := some 132) (v := ?_) (a' := ?_) #[true, false, true, true, false, false, false, false, false, false] rfl rfl (any_of HT_.out (by kernel_rfl)) (fun _ _ _ h => h) (Or.inl ⟨by rfl, ?_⟩) ?_ ?_
              rotate_left
              ·intro w'
               go_simp
               with_reducible rfl
              rotate_left
              ·simp only [Act.put, List.setIfInBounds_toArray, List.set_cons_zero, List.set_cons_succ, i64_w, i32_w]
               rfl
              refine pure_ (i := 4) (N := some 133) (v := ?_) (a' := ?_) #[true, false, true, true, true, false, false, false, false, false] rfl rfl (any_of HT_.out (by kernel_rfl)) (fun _ _ _ h => h) (Or.inl ⟨by rfl, ?_⟩) ?_ ?_
              rotate_left
              ·intro w'
               go_simp
               with_reducible rfl
              rotate_left
              ·simp only [Act.put, List.setIfInBounds_toArray, List.set_cons_zero, List.set_cons_succ, i64_w, i32_w]
               rfl
              refine take_ (i := 1) (N := some 130) (v := ?_) (a' := ?_) #[true, true, true, true, true, false, false, false, false, false] rfl rfl (take_ofW HT_.out HW_.out (by kernel_rfl)) (fun _ _ _ h => h) (Or.inl ⟨by rfl, ?_⟩) hHeld ?_ ?_
              rotate_left
              ·rintro w' ⟨s0, s1, s2, s3, s4⟩
               go_simp
               with_reducible rfl
              rotate_left
              ·simp only [Act.put, List.setIfInBounds_toArray, List.set_cons_zero, List.set_cons_succ, i64_w, i32_w]
               rfl
              refine take_ (i := 5) (N := some 134) (v := ?_) (a' := ?_) #[true, true, true, true, true, true, false, false, false, false] rfl rfl (take_ofW HT_.out HW_.out (by kernel_rfl)) (fun _ _ _ h => h) (Or.inl ⟨by rfl, ?_⟩) hHeld ?_ ?_
              rotate_left
              ·rintro w' ⟨s0, s1, s2, s3, s4⟩
               go_simp
               with_reducible rfl
              rotate_left
              ·simp only [Act.put, List.setIfInBounds_toArray, List.set_cons_zero, List.set_cons_succ, i64_w, i32_w]
               rfl
              refine one_ (i := 6) (N := some 135) #[true, true, true, true, true, true, true, false, false, false] rfl rfl (one_of HT_.out (by kernel_rfl)) (by decide) (fun K hK => ?_)
              refine value_ (w1 := ?_) (v := ?_) (by rfl) rfl ?_ ?_
              rotate_left 2
              ·go_simp
               constructor
               ·rfl
               ·rfl
              refine hK.out _ _ ⟨(blk_cell (blk_alloc BK235.out _) 0).trans rfl, (blk_cell (blk_alloc BK235.out _) 1).trans rfl, (blk_cell (blk_alloc BK235.out _) 2).trans rfl, (blk_cell (blk_alloc BK235.out _) 3).trans rfl, (World.cell?_alloc_lt _ _ _ (World.block_lt_of_cell? _ _ (hHeld.2.2.2.2))).trans (hHeld.2.2.2.2)⟩ (fun hHeld => ?_)
              clear hK K
              refine norm_ (a' := ?_) ?_ ?_
              rotate_left
              ·show Act.put _ (some 135) _ = _
               simp only [Act.put, List.setIfInBounds_toArray, List.set_cons_zero, List.set_cons_succ, i64_w, i32_w]
               rfl
              refine last_ (i := 7) (N := some 136) #[true, true, true, true, true, true, true, true, false, false] rfl rfl (one_of HT_.out (by kernel_rfl)) (by decide) (fun K hK => ?_)
              refine Kd.R_append_step Kd.string (w0 := w) w.heap.size (by rfl) (.tmp 130) (.tmp 135) 28 9 (.string ⟨#[]⟩) 16 rfl Tryd.underlying28 info9 rfl (by decide) (by omega) u236003 x236003_3 (rdOf ByteArray.empty t261 x21_3) [.string (rdOf ByteArray.empty t261 x21_3)] (fun k_ => some k_ ≠ (.slice (some ad255) t261.length co185 : Value).ownBlock ∧ some k_ ≠ (.slice Ao179 t265.length co179 : Value).ownBlock ∧ some k_ ≠ (u236002 : Value).ownBlock) (fun _ => False) rfl rfl ?aP (fun _ hk => hk.elim) ?aF ?aO ?aB ?aS ?aL ?_
              (case aP => exact rfl)
              (case aB => exact (by repeat (first | (with_reducible first | exact HB.out | apply below_alloc | apply pw_below_drewN | apply below_drew1 | refine below_set ?_ GE215.out | refine below_set ?_ GE216.out | refine below_set ?_ GE217.out | refine below_set ?_ GE227.out | refine below_set ?_ GE234.out | refine below_set ?_ GE235.out) | exact HB.out)))
              (case aF => exact (fun k_ hk => ⟨Kd.fresh' (Kd.R_lt (by (with_reducible repeat (first | apply Kd.R_alloc | apply Kd.R_drewN | apply Kd.R_drew)); exact HO_15.out)) k_ hk, Kd.fresh' (Kd.R_lt (by (with_reducible repeat (first | apply Kd.R_alloc | apply Kd.R_drewN | apply Kd.R_drew)); exact HO_17.out)) k_ hk, Kd.fresh' (Kd.R_lt (by (with_reducible repeat (first | apply Kd.R_alloc | apply Kd.R_drewN | apply Kd.R_drew)); exact HO_236002.out)) k_ hk⟩))
              (case aO => exact (by (with_reducible repeat (first | apply Kd.R_alloc | apply Kd.R_drewN | apply Kd.R_drew)); exact HO_236003.out))
              (case aS => exact (below_size (by repeat (first | (with_reducible first | exact HB.out | apply below_alloc | apply pw_below_drewN | apply below_drew1 | refine below_set ?_ GE215.out | refine below_set ?_ GE216.out | refine below_set ?_ GE217.out | refine below_set ?_ GE227.out | refine below_set ?_ GE234.out | refine below_set ?_ GE235.out) | exact HB.out))))
              (case aL => have := LMc184.out; omega)
              intro v259 w187 ho hb hg hat
              rw [← Ny258.out] at ho
              have n0_ := Aside0.mk (Kd.R_after (ok := (fun k_ => some k_ ≠ (.slice Ao179 t265.length co179 : Value).ownBlock ∧ some k_ ≠ (u236002 : Value).ownBlock)) (by (with_reducible repeat (first | apply Kd.R_alloc | apply Kd.R_drewN | apply Kd.R_drew)); exact Kd.R_mono HO_15.out (fun _ hk => ⟨⟨hk.1, hk.2.1⟩, hk.2.2⟩)) hg hat)
              have n1_ := Aside0.mk (Kd.R_after (ok := (fun k_ => some k_ ≠ (.slice (some ad255) t261.length co185 : Value).ownBlock ∧ some k_ ≠ (u236002 : Value).ownBlock)) (by (with_reducible repeat (first | apply Kd.R_alloc | apply Kd.R_drewN | apply Kd.R_drew)); exact Kd.R_mono HO_17.out (fun _ hk => ⟨⟨hk.1, hk.2.1⟩, hk.2.2⟩)) hg hat)
              have n2_ := Aside0.mk (Kd.R_after (ok := (fun k_ => some k_ ≠ (.slice (some ad255) t261.length co185 : Value).ownBlock ∧ some k_ ≠ (.slice Ao179 t265.length co179 : Value).ownBlock)) (by (with_reducible repeat (first | apply Kd.R_alloc | apply Kd.R_drewN | apply Kd.R_drew)); exact Kd.R_mono HO_236002.out (fun _ hk => ⟨⟨hk.1, hk.2.1⟩, hk.2.2⟩)) hg hat)
              have n3_ := Aside0.mk (blk_grown (g := gb215) (o := .cells #[.int .i64 a1_0, .int .i64 a1_1, .int .i64 a1_2] 23 (0, 0)) (by (with_reducible repeat (first | refine blk_drewN ?_ _ | refine blk_drew ?_ | refine blk_alloc ?_ _)); exact BK215.out) hg (Kd.R_ne HO_236003.out BK215.out (by decide)))
              have n4_ := Aside0.mk (blk_grown (g := gb216) (o := .cells #[.int .i64 a3_0, .int .i64 a3_1, .int .i64 a3_2] 23 (0, 0)) (by (with_reducible repeat (first | refine blk_drewN ?_ _ | refine blk_drew ?_ | refine blk_alloc ?_ _)); exact BK216.out) hg (Kd.R_ne HO_236003.out BK216.out (by decide)))
              have n5_ := Aside0.mk (blk_grown (g := gb217) (o := .cells #[.bool false, .bool false, .slice none 0 0, .slice none 0 0] 34 (0, 0)) (by (with_reducible repeat (first | refine blk_drewN ?_ _ | refine blk_drew ?_ | refine blk_alloc ?_ _)); exact BK217.out) hg (Kd.R_ne HO_236003.out BK217.out (by decide)))
              have n6_ := Aside0.mk (blk_grown (g := gb227) (o := .cells #[.string t221, .int .i64 t222, .int .u32 t223, .int .u8 t224, .int .i64 t225] 60 (0, 0)) (by (with_reducible repeat (first | refine blk_drewN ?_ _ | refine blk_drew ?_ | refine blk_alloc ?_ _)); exact BK227.out) hg (Kd.R_ne HO_236003.out BK227.out (by decide)))
              have n7_ := Aside0.mk (blk_grown (g := gb234) (o := .cells #[.string t228, .int .i64 t229, .int .u32 t230, .int .u8 t231, .int .i64 t232] 60 (0, 0)) (by (with_reducible repeat (first | refine blk_drewN ?_ _ | refine blk_drew ?_ | refine blk_alloc ?_ _)); exact BK234.out) hg (Kd.R_ne HO_236003.out BK234.out (by decide)))
              have n8_ := Aside0.mk (blk_grown (g := gb235) (o := .cells #[.bool (eqT23 a1_0 a3_0 a1_1 a3_1 a1_2 a3_2), .bool false, u236002, u236003] 34 (0, 0)) (by (with_reducible repeat (first | refine blk_drewN ?_ _ | refine blk_drew ?_ | refine blk_alloc ?_ _)); exact BK235.out) hg (Kd.R_ne HO_236003.out BK235.out (by decide)))
              have n9_ := Aside0.mk (hb)
              have n10_ := Aside0.mk (ho)
              clear HO_15
              clear HO_17
              clear HO_236002
              clear BK215
              clear BK216
              clear BK217
              clear BK227
              clear BK234
              clear BK235
              clear HB
              clear HO_236003
              have HO_15 := n0_
              have HO_17 := n1_
              have HO_236002 := n2_
              have BK215 := n3_
              have BK216 := n4_
              have BK217 := n5_
              have BK227 := n6_
              have BK234 := n7_
              have BK235 := n8_
              have HB := n9_
              have HO260 := n10_
              clear n0_ n1_ n2_ n3_ n4_ n5_ n6_ n7_ n8_ n9_ n10_
              clear ho hb hg hat
              obtain ⟨Ao188, co188, eo188⟩ := Kd.R_slice HO260.out
              (first | subst eo188 | (injection eo188 with f1_ f2_ f3_; have f4_ := f1_.symm; have f5_ := f3_.symm; clear f1_ f2_ f3_; subst f4_; subst f5_))
              refine hK.out _ _ ?_
              clear hK K
              refine norm_ (a' := ?_) ?_ ?_
              rotate_left
              ·show Act.put _ (some 136) _ = _
               simp only [Act.put, List.setIfInBounds_toArray, List.set_cons_zero, List.set_cons_succ, i64_w, i32_w]
               rfl
              refine pure_ (i := 8) (N := some 137) (v := ?_) (a' := ?_) #[true, true, true, true, true, true, true, true, true, false] rfl rfl (any_of HT_.out (by kernel_rfl)) (fun _ _ _ h => h) (Or.inl ⟨by rfl, ?_⟩) ?_ ?_
              rotate_left
              ·intro w'
               go_simp
               with_reducible rfl
              rotate_left
              ·simp only [Act.put, List.setIfInBounds_toArray, List.set_cons_zero, List.set_cons_succ, i64_w, i32_w]
               rfl
              refine last_ (i := 9) (N := none) #[true, true, true, true, true, true, true, true, true, true] rfl rfl (one_of HT_.out (by kernel_rfl)) (by decide) (fun K hK => ?_)
              have hs189 : w187.cell? ⟨gb235, 3, none⟩ = some (u236003) := (blk_cell BK235.out 3).trans rfl
              have hfs189 := blk_frozen BK235.out 3
              have hns189_0 := NB215_235.out
              have hns189_1 := NB216_235.out
              have hns189_2 := NB217_235.out
              have hns189_3 := NB227_235.out
              have hns189_4 := NB234_235.out
              have hms189_0 := NB235_215.out
              have hms189_1 := NB235_216.out
              have hms189_2 := NB235_217.out
              have hms189_3 := NB235_227.out
              have hms189_4 := NB235_234.out
              refine skip_ (w1 := ?_) (by rfl) rfl ?_ ?_
              rotate_left
              ·go_simp
               rfl
              refine hK.out _ _ ?_
              clear hK K
              refine done_ (done_of HT_.out (by kernel_rfl)) ?_
              try go_wp2
              go_roundg k3
              case measure => have := HJ4.out; have := HK2.out; have := HK3.out; omega
              case rel => exact ⟨(wrap64 (x21_3 + 1)), (y258), (.slice Ao188 y258.length co188), (by first | rfl | (simp; done) | (simp [*]; done)), H', ⟨by have := HJ4.out; have := HK2.out; have := HK3.out; omega⟩, ⟨by (with_reducible repeat (first | apply Kd.R_alloc | apply Kd.R_drewN | apply Kd.R_drew)); exact Kd.R_mono (Kd.R_far (p := ⟨gb235, 3, none⟩) (Kd.R_types HO_15.out BK235.out (by decide)) (fun _ hk => hk.2) (.slice Ao188 y258.length co188)) (fun _ hk => ⟨hk.1.1.1, ⟨hk.1.1.2, hk.1.2⟩⟩)⟩, ⟨by (with_reducible repeat (first | apply Kd.R_alloc | apply Kd.R_drewN | apply Kd.R_drew)); exact Kd.R_mono (Kd.R_far (p := ⟨gb235, 3, none⟩) (Kd.R_types HO_17.out BK235.out (by decide)) (fun _ hk => hk.2) (.slice Ao188 y258.length co188)) (fun _ hk => ⟨hk.1.1.1, ⟨hk.1.1.2, hk.1.2⟩⟩)⟩, ⟨by (with_reducible repeat (first | apply Kd.R_alloc | apply Kd.R_drewN | apply Kd.R_drew)); exact Kd.R_mono (Kd.R_far (p := ⟨gb235, 3, none⟩) (Kd.R_types HO_236002.out BK235.out (by decide)) (fun _ hk => hk.2) (.slice Ao188 y258.length co188)) (fun _ hk => ⟨hk.1.1.1, ⟨hk.1.1.2, hk.1.2⟩⟩)⟩, ⟨by (with_reducible repeat (first | apply Kd.R_alloc | apply Kd.R_drewN | apply Kd.R_drew)); exact Kd.R_mono (Kd.R_far (p := ⟨gb235, 3, none⟩) (Kd.R_types HO260.out BK235.out (by decide)) (fun _ hk => hk.2) (.slice Ao188 y258.length co188)) (fun _ hk => ⟨hk.1.1, ⟨hk.1.2.1, hk.1.2.2⟩⟩)⟩, ⟨by (with_reducible repeat (first | refine blk_drewN ?_ _ | refine blk_drew ?_ | refine blk_alloc ?_ _)); refine blk_far ?_ NB215_235.out _; (with_reducible repeat (first | refine blk_drewN ?_ _ | refine blk_drew ?_ | refine blk_alloc ?_ _)); exact BK215.out⟩, ⟨by (with_reducible repeat (first | refine blk_drewN ?_ _ | refine blk_drew ?_ | refine blk_alloc ?_ _)); refine blk_far ?_ NB216_235.out _; (with_reducible repeat (first | refine blk_drewN ?_ _ | refine blk_drew ?_ | refine blk_alloc ?_ _)); exact BK216.out⟩, ⟨by (with_reducible repeat (first | refine blk_drewN ?_ _ | refine blk_drew ?_ | refine blk_alloc ?_ _)); refine blk_far ?_ NB217_235.out _; (with_reducible repeat (first | refine blk_drewN ?_ _ | refine blk_drew ?_ | refine blk_alloc ?_ _)); exact BK217.out⟩, ⟨by (with_reducible repeat (first | refine blk_drewN ?_ _ | refine blk_drew ?_ | refine blk_alloc ?_ _)); refine blk_far ?_ NB227_235.out _; (with_reducible repeat (first | refine blk_drewN ?_ _ | refine blk_drew ?_ | refine blk_alloc ?_ _)); exact BK227.out⟩, ⟨by (with_reducible repeat (first | refine blk_drewN ?_ _ | refine blk_drew ?_ | refine blk_alloc ?_ _)); refine blk_far ?_ NB234_235.out _; (with_reducible repeat (first | refine blk_drewN ?_ _ | refine blk_drew ?_ | refine blk_alloc ?_ _)); exact BK234.out⟩, ⟨by (with_reducible repeat (first | refine blk_drewN ?_ _ | refine blk_drew ?_ | refine blk_alloc ?_ _)); refine blk_put (cs := #[.bool (eqT23 a1_0 a3_0 a1_1 a3_1 a1_2 a3_2), .bool false, u236002, u236003]) ?_ 3 _ rfl; (with_reducible repeat (first | refine blk_drewN ?_ _ | refine blk_drew ?_ | refine blk_alloc ?_ _)); exact BK235.out⟩, ⟨by repeat (first | (with_reducible first | exact HB.out | apply below_alloc | apply pw_below_drewN | apply below_drew1 | refine below_set ?_ GE215.out | refine below_set ?_ GE216.out | refine below_set ?_ GE217.out | refine below_set ?_ GE227.out | refine below_set ?_ GE234.out | refine below_set ?_ GE235.out) | exact HB.out)⟩⟩
             ·rw [if_neg c184] at H
              exact absurd H (by simp)
            ·rw [if_neg c183] at H
             have c183b0 : decide (t256 < 0) = false := decide_eq_false c183
             clear c183
             have H' := Aside0.mk H
             clear H
             obtain ⟨Ao190, co190, eo190⟩ := Kd.R_slice HO_15.out
             subst eo190
             have p255 : 0 ≤ (x21_3 : Int) := of_decide_eq_true (by first | (with_reducible assumption) | assumption)
             have q255 : x21_3 < (t261.length : Int) := of_decide_eq_true (by first | (with_reducible assumption) | assumption)
             obtain ⟨ad255, e255, hx255_0⟩ := Kd.at_string (Kd.R_reads' HO_15.out).2.2 x21_3 p255 q255
             cases e255
             replace p255 := eq_true p255
             replace q255 := eq_true q255
             go_wp2_with (first | ((with_reducible refine gate_callee (f := 25) rfl ?_); refine goesL_ (some 127) rfl rfl Tryd.func25 (by kernel_rfl) rfl #[.slice Ao179 t265.length co179, .string (rdOf ByteArray.empty t261 x21_3)] rfl (by (try simp only [List.map_toArray, List.map_cons, List.map_nil]); first | done | rfl | (simp only [List.length_drop, List.length_take]; rfl)) ?_; (with_reducible refine (gambrelref22_at.calls k3 _ _ t265 (rdOf ByteArray.empty t261 x21_3) t256 _ ?side1 ?side2 A182.out).mono ?_); (case side1 => repeat (first | exact (Kd.R_reads' HO_17.out).2.2 | (with_reducible refine Kd.C_alloc ?_ _) | (with_reducible refine Kd.C_drewN ?_ _) | (with_reducible refine Kd.C_drew ?_))); (case side2 => exact (Kd.R_reads' HO_17.out).2.1); rintro e w' ⟨rfl, ⟨nd, rfl⟩⟩; refine ⟨_, rfl, ?_⟩))
             go_roundg k3
             case measure => have := HJ4.out; have := HK2.out; have := HK3.out; omega
             case rel => exact ⟨(wrap64 (x21_3 + 1)), (x236003_3), (u236003), (by first | rfl | (simp; done) | (simp [*]; done)), H', ⟨by have := HJ4.out; have := HK2.out; have := HK3.out; omega⟩, ⟨by (with_reducible repeat (first | apply Kd.R_alloc | apply Kd.R_drewN | apply Kd.R_drew)); exact HO_15.out⟩, ⟨by (with_reducible repeat (first | apply Kd.R_alloc | apply Kd.R_drewN | apply Kd.R_drew)); exact HO_17.out⟩, ⟨by (with_reducible repeat (first | apply Kd.R_alloc | apply Kd.R_drewN | apply Kd.R_drew)); exact HO_236002.out⟩, ⟨by (with_reducible repeat (first | apply Kd.R_alloc | apply Kd.R_drewN | apply Kd.R_drew)); exact HO_236003.out⟩, ⟨by (with_reducible repeat (first | refine blk_drewN ?_ _ | refine blk_drew ?_ | refine blk_alloc ?_ _)); exact BK215.out⟩, ⟨by (with_reducible repeat (first | refine blk_drewN ?_ _ | refine blk_drew ?_ | refine blk_alloc ?_ _)); exact BK216.out⟩, ⟨by (with_reducible repeat (first | refine blk_drewN ?_ _ | refine blk_drew ?_ | refine blk_alloc ?_ _)); exact BK217.out⟩, ⟨by (with_reducible repeat (first | refine blk_drewN ?_ _ | refine blk_drew ?_ | refine blk_alloc ?_ _)); exact BK227.out⟩, ⟨by (with_reducible repeat (first | refine blk_drewN ?_ _ | refine blk_drew ?_ | refine blk_alloc ?_ _)); exact BK234.out⟩, ⟨by (with_reducible repeat (first | refine blk_drewN ?_ _ | refine blk_drew ?_ | refine blk_alloc ?_ _)); exact BK235.out⟩, ⟨by repeat (first | (with_reducible first | exact HB.out | apply below_alloc | apply pw_below_drewN | apply below_drew1 | refine below_set ?_ GE215.out | refine below_set ?_ GE216.out | refine below_set ?_ GE217.out | refine below_set ?_ GE227.out | refine below_set ?_ GE234.out | refine below_set ?_ GE235.out) | exact HB.out)⟩⟩
           ·rw [if_neg c181] at H
            exact absurd H (by simp)
          ·rw [if_neg c180] at H
           have c180b0 : decide (x21_3 < (t261.length : Int)) = false := decide_eq_false c180
           clear c180
           simp only [Option.some.injEq, Prod.mk.injEq] at H
           obtain ⟨rfl, rfl, rfl, rfl, rfl⟩ := H
           obtain ⟨Ao191, co191, eo191⟩ := Kd.R_slice HO_15.out
           subst eo191
           have hnb192 := NB235_215.out
           have hnc192 := NB215_235.out
           have hnb193 := NB235_216.out
           have hnc193 := NB216_235.out
           have hnb194 := NB235_217.out
           have hnc194 := NB217_235.out
           have hnb195 := NB235_227.out
           have hnc195 := NB227_235.out
           have hnb196 := NB235_234.out
           have hnc196 := NB234_235.out
           have hcz197_0 : wr.cell? ⟨gb235, 0, none⟩ = some (.bool (eqT23 a1_0 a3_0 a1_1 a3_1 a1_2 a3_2)) := (blk_cell BK235.out 0).trans rfl
           have hcz197_1 : wr.cell? ⟨gb235, 1, none⟩ = some (.bool false) := (blk_cell BK235.out 1).trans rfl
           have hcz197_2 : wr.cell? ⟨gb235, 2, none⟩ = some (u236002) := (blk_cell BK235.out 2).trans rfl
           have hcz197_3 : wr.cell? ⟨gb235, 3, none⟩ = some (u236003) := (blk_cell BK235.out 3).trans rfl
           have hfz197_0 := blk_frozen BK235.out 0
           have hfz197_1 := blk_frozen BK235.out 1
           have hfz197_2 := blk_frozen BK235.out 2
           have hfz197_3 := blk_frozen BK235.out 3
           have hnb198 := NB217_215.out
           have hnc198 := NB215_217.out
           have hnb199 := NB217_216.out
           have hnc199 := NB216_217.out
           have hnb200 := NB217_227.out
           have hnc200 := NB227_217.out
           have hnb201 := NB217_234.out
           have hnc201 := NB234_217.out
           have hcz202_0 : wr.cell? ⟨gb217, 0, none⟩ = some (.bool false) := (blk_cell BK217.out 0).trans rfl
           have hcz202_1 : wr.cell? ⟨gb217, 1, none⟩ = some (.bool false) := (blk_cell BK217.out 1).trans rfl
           have hcz202_2 : wr.cell? ⟨gb217, 2, none⟩ = some (.slice none 0 0) := (blk_cell BK217.out 2).trans rfl
           have hcz202_3 : wr.cell? ⟨gb217, 3, none⟩ = some (.slice none 0 0) := (blk_cell BK217.out 3).trans rfl
           have hfz202_0 := blk_frozen BK217.out 0
           have hfz202_1 := blk_frozen BK217.out 1
           have hfz202_2 := blk_frozen BK217.out 2
           have hfz202_3 := blk_frozen BK217.out 3
           obtain ⟨Ao203, co203, eo203⟩ := Kd.R_slice HO_236002.out
           subst eo203
           obtain ⟨Ao204, co204, eo204⟩ := Kd.R_slice HO_236003.out
           subst eo204
           go_wp2
           refine bodyPost_ret (results_ct rfl _ _ gb217 34 #[.bool (eqT23 a1_0 a3_0 a1_1 a3_1 a1_2 a3_2), .bool false, .slice Ao203 x236002_2.length co203, .slice Ao204 x236003_3.length co204] (0, 0) _ rfl (by (with_reducible repeat (first | refine blk_drewN ?_ _ | refine blk_drew ?_ | refine blk_alloc ?_ _)); refine blk_put (cs := #[.bool (eqT23 a1_0 a3_0 a1_1 a3_1 a1_2 a3_2), .bool false, .slice Ao203 x236002_2.length co203, .slice none 0 0]) ?_ 3 _ rfl; (with_reducible repeat (first | refine blk_drewN ?_ _ | refine blk_drew ?_ | refine blk_alloc ?_ _)); refine blk_put (cs := #[.bool (eqT23 a1_0 a3_0 a1_1 a3_1 a1_2 a3_2), .bool false, .slice none 0 0, .slice none 0 0]) ?_ 2 _ rfl; (with_reducible repeat (first | refine blk_drewN ?_ _ | refine blk_drew ?_ | refine blk_alloc ?_ _)); refine blk_put (cs := #[.bool (eqT23 a1_0 a3_0 a1_1 a3_1 a1_2 a3_2), .bool false, .slice none 0 0, .slice none 0 0]) ?_ 1 _ rfl; (with_reducible repeat (first | refine blk_drewN ?_ _ | refine blk_drew ?_ | refine blk_alloc ?_ _)); refine blk_put (cs := #[.bool false, .bool false, .slice none 0 0, .slice none 0 0]) ?_ 0 _ rfl; (with_reducible repeat (first | refine blk_drewN ?_ _ | refine blk_drew ?_ | refine blk_alloc ?_ _)); exact BK217.out) Tryd.underlying34 rfl (by kernel_rfl)) rfl ?_
           exact ⟨_, _, by first | rfl | (simp [errW_none, errW_some] <;> rfl) | (simp [*, errW_none, errW_some] <;> rfl), by (with_reducible repeat (first | apply Kd.R_alloc | apply Kd.R_drewN | apply Kd.R_drew)); exact Kd.R_mono (Kd.R_far (p := ⟨gb217, 3, none⟩) (Kd.R_far (p := ⟨gb217, 2, none⟩) (Kd.R_far (p := ⟨gb217, 1, none⟩) (Kd.R_far (p := ⟨gb217, 0, none⟩) (Kd.R_types HO_236002.out BK217.out (by decide)) (fun _ hk => hk.2) (.bool (eqT23 a1_0 a3_0 a1_1 a3_1 a1_2 a3_2))) (fun _ hk => hk.2) (.bool false)) (fun _ hk => hk.2) (.slice Ao203 x236002_2.length co203)) (fun _ hk => hk.2) (.slice Ao204 x236003_3.length co204)) (fun _ hk => hk.1.2.2), by (with_reducible repeat (first | apply Kd.R_alloc | apply Kd.R_drewN | apply Kd.R_drew)); exact Kd.R_mono (Kd.R_far (p := ⟨gb217, 3, none⟩) (Kd.R_far (p := ⟨gb217, 2, none⟩) (Kd.R_far (p := ⟨gb217, 1, none⟩) (Kd.R_far (p := ⟨gb217, 0, none⟩) (Kd.R_types HO_236003.out BK217.out (by decide)) (fun _ hk => hk.2) (.bool (eqT23 a1_0 a3_0 a1_1 a3_1 a1_2 a3_2))) (fun _ hk => hk.2) (.bool false)) (fun _ hk => hk.2) (.slice Ao203 x236002_2.length co203)) (fun _ hk => hk.2) (.slice Ao204 x236003_3.length co204)) (fun _ hk => hk.1.2.2), by repeat (first | (with_reducible first | exact HB.out | apply below_alloc | apply pw_below_drewN | apply below_drew1 | refine below_set ?_ GE215.out | refine below_set ?_ GE216.out | refine below_set ?_ GE217.out | refine below_set ?_ GE227.out | refine below_set ?_ GE234.out | refine below_set ?_ GE235.out) | exact HB.out)⟩


end Go.Proofs.YtlapjnaaihpeeaaDoor.XPl
