-- WRITTEN BY this work's own program (wip/tools/xprint.py). Not trusted: Lean checks it.
import Derived.Test.YtlapjnaaihpeeaaDoorXPl0
import Derived.Test.YtlapjnaaihpeeaaDoorXPl1
import Derived.Test.YtlapjnaaihpeeaaDoorXPl6
import Derived.Test.YtlapjnaaihpeeaaDoorXPl8
import Derived.Test.YtlapjnaaihpeeaaDoorXPl9
namespace Go.Proofs.YtlapjnaaihpeeaaDoor.XPl
open Go.RowKit Go.Proofs.YtlapjnaaihpeeaaDoorW.PrintWords Go.Proofs.YtlapjnaaihpeeaaDoorW.PrintLast Go.Proofs.YtlapjnaaihpeeaaDoorW.PrintMore
attribute [local go_sem] max2_int min2_int max_two min_two max_three min_three max_four min_four   -- for this text's walks alone
set_option linter.unusedVariables false
set_option linter.unusedSimpArgs false

attribute [local go_sem high] eqA23
/-! ### gambrelref22_Of: function 9 -/
set_option maxHeartbeats 8000000 in
set_option maxRecDepth 100000 in
theorem gambrelref22_Of.calls_1 (k : Nat) (a0 : ByteArray) (a1_0 : Int) (a1_1 : Int) (a1_2 : Int) (A2 : Option Addr) (c2 : Nat) (l2 : List Int) (a3_0 : Int) (a3_1 : Int) (a3_2 : Int) (r1 : Bool) (r2 : Bool) (r3 : List ByteArray) (r4 : List ByteArray) (r5 : Int) (w : World) (hr2 : Kd.C (Kd.int .i64) w A2 l2.length l2) (hc2 : l2.length ≤ c2) (hx_ : Aside0 (a1_1 = a3_1)) (h : gambrelref22_Of.f k a0 a1_0 a1_1 a1_2 l2 a3_0 a3_1 a3_2 = some (r1, r2, r3, r4, r5)) :
  Calls Tryd.prog 9 #[.string a0, .agg #[.int .i64 a1_0, .int .i64 a1_1, .int .i64 a1_2], .slice A2 l2.length c2, .agg #[.int .i64 a3_0, .int .i64 a3_1, .int .i64 a3_2]] w fun e w' => ∃ v2_ v3_ : Value, e = .returned (.tuple #[.agg #[.bool r1, .bool r2, v2_, v3_], .int .i64 r5]) ∧ Kd.R Kd.string 9 w' w.heap.size (fun k_ => some k_ ≠ (v3_ : Value).ownBlock) v2_ r3 ∧ Kd.R Kd.string 9 w' w.heap.size (fun k_ => some k_ ≠ (v2_ : Value).ownBlock) v3_ r4 ∧ Below w.heap.size w w' := by
 have hu23 := Tryd.underlying23
 have hu34 := Tryd.underlying34
 have hu60 := Tryd.underlying60
 have HR2 := Aside0.mk hr2
 have HC2 := Aside0.mk hc2
 clear hr2 hc2
 have HB := Aside0.mk (Below.refl w.heap.size w)
 have H : ((gambrelref15_May.f k a0).bind fun t218 => (if t218 = true then ((gambrelref09_May.f a1_0 a1_1 a1_2).bind fun t219 => (if t219 = true then ((gambrelref09_May.f a3_0 a3_1 a3_2).bind fun t220 => (if t220 = true then (gambrelref22_Of.j0 k a0 l2 ((l2.length : Int) != (wrap64 (a1_1 + a1_2))) a1_0 a1_1 a1_2 a3_0 a3_1 a3_2) else (gambrelref22_Of.j0 k a0 l2 true a1_0 a1_1 a1_2 a3_0 a3_1 a3_2))) else (gambrelref22_Of.j0 k a0 l2 true a1_0 a1_1 a1_2 a3_0 a3_1 a3_2))) else (gambrelref22_Of.j0 k a0 l2 true a1_0 a1_1 a1_2 a3_0 a3_1 a3_2))) = some (r1, r2, r3, r4, r5) := h
 clear h
 have HC5 := Aside0.mk H
 clear H
 go_enter Tryd.func9, Tryd.ntmps9
 go_upto_region 1 with (first | ((with_reducible refine gate_dst (N := 5) rfl ?_); (try (refine gate_guard (by rfl) ?_; dsimp only)); refine box_event ?hg (N := 5) ?hd (cs := #[.int .i64 a1_0, .int .i64 a1_1, .int .i64 a1_2]) (t := 23) ?hr ?_; (case hd => rfl); (case hg => rfl); (case hr => first | (go_simp; done) | (go_simp; rfl)); intro gb215 hg w6 hbox hb; have n0_ := Aside0.mk (below_step (by repeat (first | (with_reducible first | exact HB.out | apply below_alloc | apply pw_below_drewN | apply below_drew1) | exact HB.out)) hb); have n1_ := Aside0.mk (hbox); have n2_ := Aside0.mk ((by rw [hg]; exact (below_size (by repeat (first | (with_reducible first | exact HB.out | apply below_alloc | apply pw_below_drewN | apply below_drew1) | exact HB.out))) : w.heap.size ≤ gb215)); have n3_ := Aside0.mk ((by rw [hg]; exact (below_size (by repeat (first | (with_reducible first | exact HB.out | apply below_alloc | apply pw_below_drewN | apply below_drew1) | exact HB.out))) : w.heap.size ≤ gb215)); clear HB; have HB := n0_; have BK215 := n1_; have GW215 := n2_; have GE215 := n3_; clear n0_ n1_ n2_ n3_; clear hb hbox hg) | ((with_reducible refine gate_dst (N := 7) rfl ?_); (try (refine gate_guard (by rfl) ?_; dsimp only)); refine box_event ?hg (N := 7) ?hd (cs := #[.int .i64 a3_0, .int .i64 a3_1, .int .i64 a3_2]) (t := 23) ?hr ?_; (case hd => rfl); (case hg => rfl); (case hr => first | (go_simp; done) | (go_simp; rfl)); intro gb216 hg w7 hbox hb; have n0_ := Aside0.mk (blk_below (g := gb215) (o := .cells #[.int .i64 a1_0, .int .i64 a1_1, .int .i64 a1_2] 23 (0, 0)) (by (with_reducible repeat (first | refine blk_drewN ?_ _ | refine blk_drew ?_ | refine blk_alloc ?_ _)); exact BK215.out) hb); have n1_ := Aside0.mk (below_step (by repeat (first | (with_reducible first | exact HB.out | apply below_alloc | apply pw_below_drewN | apply below_drew1 | refine below_set ?_ GE215.out) | exact HB.out)) hb); have n2_ := Aside0.mk (hbox); have n3_ := Aside0.mk ((by rw [hg]; exact (below_size (by repeat (first | (with_reducible first | exact HB.out | apply below_alloc | apply pw_below_drewN | apply below_drew1 | refine below_set ?_ GE215.out) | exact HB.out))) : w.heap.size ≤ gb216)); have n4_ := Aside0.mk ((by rw [hg]; exact (below_size (by repeat (first | (with_reducible first | exact HB.out | apply below_alloc | apply pw_below_drewN | apply below_drew1 | refine below_set ?_ GE215.out) | exact HB.out))) : w.heap.size ≤ gb216)); have n5_ := Aside0.mk ((by rw [hg]; exact Nat.ne_of_lt (blk_lt (g := gb215) (o := .cells #[.int .i64 a1_0, .int .i64 a1_1, .int .i64 a1_2] 23 (0, 0)) (by (with_reducible repeat (first | refine blk_drewN ?_ _ | refine blk_drew ?_ | refine blk_alloc ?_ _)); exact BK215.out)) : gb215 ≠ gb216)); have n6_ := Aside0.mk ((by rw [hg]; exact Nat.ne_of_gt (blk_lt (g := gb215) (o := .cells #[.int .i64 a1_0, .int .i64 a1_1, .int .i64 a1_2] 23 (0, 0)) (by (with_reducible repeat (first | refine blk_drewN ?_ _ | refine blk_drew ?_ | refine blk_alloc ?_ _)); exact BK215.out)) : gb216 ≠ gb215)); clear BK215; clear HB; have BK215 := n0_; have HB := n1_; have BK216 := n2_; have GW216 := n3_; have GE216 := n4_; have NB215_216 := n5_; have NB216_215 := n6_; clear n0_ n1_ n2_ n3_ n4_ n5_ n6_; clear hb hbox hg) | ((with_reducible refine gate_dst (N := 8) rfl ?_); (try (refine gate_guard (by rfl) ?_; dsimp only)); refine box_event ?hg (N := 8) ?hd (cs := #[.bool false, .bool false, .slice none 0 0, .slice none 0 0]) (t := 34) ?hr ?_; (case hd => rfl); (case hg => rfl); (case hr => first | (go_simp; done) | (go_simp; rfl)); intro gb217 hg w8 hbox hb; have n0_ := Aside0.mk (blk_below (g := gb215) (o := .cells #[.int .i64 a1_0, .int .i64 a1_1, .int .i64 a1_2] 23 (0, 0)) (by (with_reducible repeat (first | refine blk_drewN ?_ _ | refine blk_drew ?_ | refine blk_alloc ?_ _)); exact BK215.out) hb); have n1_ := Aside0.mk (blk_below (g := gb216) (o := .cells #[.int .i64 a3_0, .int .i64 a3_1, .int .i64 a3_2] 23 (0, 0)) (by (with_reducible repeat (first | refine blk_drewN ?_ _ | refine blk_drew ?_ | refine blk_alloc ?_ _)); exact BK216.out) hb); have n2_ := Aside0.mk (below_step (by repeat (first | (with_reducible first | exact HB.out | apply below_alloc | apply pw_below_drewN | apply below_drew1 | refine below_set ?_ GE215.out | refine below_set ?_ GE216.out) | exact HB.out)) hb); have n3_ := Aside0.mk (hbox); have n4_ := Aside0.mk ((by rw [hg]; exact (below_size (by repeat (first | (with_reducible first | exact HB.out | apply below_alloc | apply pw_below_drewN | apply below_drew1 | refine below_set ?_ GE215.out | refine below_set ?_ GE216.out) | exact HB.out))) : w.heap.size ≤ gb217)); have n5_ := Aside0.mk ((by rw [hg]; exact (below_size (by repeat (first | (with_reducible first | exact HB.out | apply below_alloc | apply pw_below_drewN | apply below_drew1 | refine below_set ?_ GE215.out | refine below_set ?_ GE216.out) | exact HB.out))) : w.heap.size ≤ gb217)); have n6_ := Aside0.mk ((by rw [hg]; exact Nat.ne_of_lt (blk_lt (g := gb215) (o := .cells #[.int .i64 a1_0, .int .i64 a1_1, .int .i64 a1_2] 23 (0, 0)) (by (with_reducible repeat (first | refine blk_drewN ?_ _ | refine blk_drew ?_ | refine blk_alloc ?_ _)); exact BK215.out)) : gb215 ≠ gb217)); have n7_ := Aside0.mk ((by rw [hg]; exact Nat.ne_of_gt (blk_lt (g := gb215) (o := .cells #[.int .i64 a1_0, .int .i64 a1_1, .int .i64 a1_2] 23 (0, 0)) (by (with_reducible repeat (first | refine blk_drewN ?_ _ | refine blk_drew ?_ | refine blk_alloc ?_ _)); exact BK215.out)) : gb217 ≠ gb215)); have n8_ := Aside0.mk ((by rw [hg]; exact Nat.ne_of_lt (blk_lt (g := gb216) (o := .cells #[.int .i64 a3_0, .int .i64 a3_1, .int .i64 a3_2] 23 (0, 0)) (by (with_reducible repeat (first | refine blk_drewN ?_ _ | refine blk_drew ?_ | refine blk_alloc ?_ _)); exact BK216.out)) : gb216 ≠ gb217)); have n9_ := Aside0.mk ((by rw [hg]; exact Nat.ne_of_gt (blk_lt (g := gb216) (o := .cells #[.int .i64 a3_0, .int .i64 a3_1, .int .i64 a3_2] 23 (0, 0)) (by (with_reducible repeat (first | refine blk_drewN ?_ _ | refine blk_drew ?_ | refine blk_alloc ?_ _)); exact BK216.out)) : gb217 ≠ gb216)); clear BK215; clear BK216; clear HB; have BK215 := n0_; have BK216 := n1_; have HB := n2_; have BK217 := n3_; have GW217 := n4_; have GE217 := n5_; have NB215_217 := n6_; have NB217_215 := n7_; have NB216_217 := n8_; have NB217_216 := n9_; clear n0_ n1_ n2_ n3_ n4_ n5_ n6_ n7_ n8_ n9_; clear hb hbox hg))
 (try simp only [Act.put, List.setIfInBounds_toArray, List.set_cons_zero, List.set_cons_succ])
 go_cut [44] (fun v44 wc => ∃ (kq : Nat) (x44_4 : Bool), v44 = .bool x44_4 ∧ Aside0 (gambrelref22_Of.j0 kq a0 l2 x44_4 a1_0 a1_1 a1_2 a3_0 a3_1 a3_2 = some (r1, r2, r3, r4, r5)) ∧ Aside0 (kq ≤ k) ∧ Aside0 (wc.heap[gb215]? = some (.cells #[.int .i64 a1_0, .int .i64 a1_1, .int .i64 a1_2] 23 (0, 0))) ∧ Aside0 (wc.heap[gb216]? = some (.cells #[.int .i64 a3_0, .int .i64 a3_1, .int .i64 a3_2] 23 (0, 0))) ∧ Aside0 (wc.heap[gb217]? = some (.cells #[.bool false, .bool false, (.slice none 0 0), (.slice none 0 0)] 34 (0, 0))) ∧ Aside0 (Below w.heap.size w wc))
 case first =>
  have H := HC5.out
  clear HC5
  replace H := Option.bind_eq_some_iff.mp H
  obtain ⟨t218, A90, H⟩ := H
  replace H : (if t218 = true then ((gambrelref09_May.f a1_0 a1_1 a1_2).bind fun t219 => (if t219 = true then ((gambrelref09_May.f a3_0 a3_1 a3_2).bind fun t220 => (if t220 = true then (gambrelref22_Of.j0 k a0 l2 ((l2.length : Int) != (wrap64 (a1_1 + a1_2))) a1_0 a1_1 a1_2 a3_0 a3_1 a3_2) else (gambrelref22_Of.j0 k a0 l2 true a1_0 a1_1 a1_2 a3_0 a3_1 a3_2))) else (gambrelref22_Of.j0 k a0 l2 true a1_0 a1_1 a1_2 a3_0 a3_1 a3_2))) else (gambrelref22_Of.j0 k a0 l2 true a1_0 a1_1 a1_2 a3_0 a3_1 a3_2)) = some (r1, r2, r3, r4, r5) := H
  have A9 := Aside0.mk A90
  clear A90
  by_cases c10 : t218 = true
  ·subst c10
   have H1 : ((gambrelref09_May.f a1_0 a1_1 a1_2).bind fun t219 => (if t219 = true then ((gambrelref09_May.f a3_0 a3_1 a3_2).bind fun t220 => (if t220 = true then (gambrelref22_Of.j0 k a0 l2 ((l2.length : Int) != (wrap64 (a1_1 + a1_2))) a1_0 a1_1 a1_2 a3_0 a3_1 a3_2) else (gambrelref22_Of.j0 k a0 l2 true a1_0 a1_1 a1_2 a3_0 a3_1 a3_2))) else (gambrelref22_Of.j0 k a0 l2 true a1_0 a1_1 a1_2 a3_0 a3_1 a3_2))) = some (r1, r2, r3, r4, r5) := by rw [if_pos rfl] at H; exact H
   clear H
   have H := H1
   clear H1
   replace H := Option.bind_eq_some_iff.mp H
   obtain ⟨t219, A110, H⟩ := H
   replace H : (if t219 = true then ((gambrelref09_May.f a3_0 a3_1 a3_2).bind fun t220 => (if t220 = true then (gambrelref22_Of.j0 k a0 l2 ((l2.length : Int) != (wrap64 (a1_1 + a1_2))) a1_0 a1_1 a1_2 a3_0 a3_1 a3_2) else (gambrelref22_Of.j0 k a0 l2 true a1_0 a1_1 a1_2 a3_0 a3_1 a3_2))) else (gambrelref22_Of.j0 k a0 l2 true a1_0 a1_1 a1_2 a3_0 a3_1 a3_2)) = some (r1, r2, r3, r4, r5) := H
   have A11 := Aside0.mk A110
   clear A110
   by_cases c12 : t219 = true
   ·subst c12
    have H1 : ((gambrelref09_May.f a3_0 a3_1 a3_2).bind fun t220 => (if t220 = true then (gambrelref22_Of.j0 k a0 l2 ((l2.length : Int) != (wrap64 (a1_1 + a1_2))) a1_0 a1_1 a1_2 a3_0 a3_1 a3_2) else (gambrelref22_Of.j0 k a0 l2 true a1_0 a1_1 a1_2 a3_0 a3_1 a3_2))) = some (r1, r2, r3, r4, r5) := by rw [if_pos rfl] at H; exact H
    clear H
    have H := H1
    clear H1
    replace H := Option.bind_eq_some_iff.mp H
    obtain ⟨t220, A130, H⟩ := H
    replace H : (if t220 = true then (gambrelref22_Of.j0 k a0 l2 ((l2.length : Int) != (wrap64 (a1_1 + a1_2))) a1_0 a1_1 a1_2 a3_0 a3_1 a3_2) else (gambrelref22_Of.j0 k a0 l2 true a1_0 a1_1 a1_2 a3_0 a3_1 a3_2)) = some (r1, r2, r3, r4, r5) := H
    have A13 := Aside0.mk A130
    clear A130
    by_cases c14 : t220 = true
    ·subst c14
     have H1 : (gambrelref22_Of.j0 k a0 l2 ((l2.length : Int) != (wrap64 (a1_1 + a1_2))) a1_0 a1_1 a1_2 a3_0 a3_1 a3_2) = some (r1, r2, r3, r4, r5) := by rw [if_pos rfl] at H; exact H
     clear H
     have H := H1
     clear H1
     have H' := Aside0.mk H
     clear H
     go_wp2_with (first | ((with_reducible refine gate_callee (f := 22) rfl ?_); refine goesL_ (some 23) rfl rfl Tryd.func22 (by kernel_rfl) rfl #[.string a0] rfl (by (try simp only [List.map_toArray, List.map_cons, List.map_nil]); first | done | rfl | (simp only [List.length_drop, List.length_take]; rfl)) ?_; (with_reducible refine (gambrelref15_May.calls k a0 true _ A9.out).mono ?_); rintro e w' ⟨rfl, ⟨nd, rfl⟩⟩; refine ⟨_, rfl, ?_⟩; have hnb15 := NB215_216.out; have hnc15 := NB216_215.out; have hnb16 := NB215_217.out; have hnc16 := NB217_215.out; have hcz17_0 : w8.cell? ⟨gb215, 0, none⟩ = some (.int .i64 a1_0) := (blk_cell BK215.out 0).trans rfl; have hcz17_1 : w8.cell? ⟨gb215, 1, none⟩ = some (.int .i64 a1_1) := (blk_cell BK215.out 1).trans rfl; have hcz17_2 : w8.cell? ⟨gb215, 2, none⟩ = some (.int .i64 a1_2) := (blk_cell BK215.out 2).trans rfl; have hfz17_0 := blk_frozen BK215.out 0; have hfz17_1 := blk_frozen BK215.out 1; have hfz17_2 := blk_frozen BK215.out 2) | (go_at_call 23; (with_reducible refine (gambrelref09_May.calls a1_0 a1_1 a1_2 true _ A11.out).mono ?_); rintro e w18 ⟨rfl, hb⟩; have n0_ := Aside0.mk (blk_below (g := gb215) (o := .cells #[.int .i64 a1_0, .int .i64 a1_1, .int .i64 a1_2] 23 (0, 0)) (by (with_reducible repeat (first | refine blk_drewN ?_ _ | refine blk_drew ?_ | refine blk_alloc ?_ _)); exact BK215.out) hb); have n1_ := Aside0.mk (blk_below (g := gb216) (o := .cells #[.int .i64 a3_0, .int .i64 a3_1, .int .i64 a3_2] 23 (0, 0)) (by (with_reducible repeat (first | refine blk_drewN ?_ _ | refine blk_drew ?_ | refine blk_alloc ?_ _)); exact BK216.out) hb); have n2_ := Aside0.mk (blk_below (g := gb217) (o := .cells #[.bool false, .bool false, .slice none 0 0, .slice none 0 0] 34 (0, 0)) (by (with_reducible repeat (first | refine blk_drewN ?_ _ | refine blk_drew ?_ | refine blk_alloc ?_ _)); exact BK217.out) hb); have n3_ := Aside0.mk (below_step (by repeat (first | (with_reducible first | exact HB.out | apply below_alloc | apply pw_below_drewN | apply below_drew1 | refine below_set ?_ GE215.out | refine below_set ?_ GE216.out | refine below_set ?_ GE217.out) | exact HB.out)) hb); clear BK215; clear BK216; clear BK217; clear HB; have BK215 := n0_; have BK216 := n1_; have BK217 := n2_; have HB := n3_; clear n0_ n1_ n2_ n3_; (try clear hb); (try clear hb2); (try clear hk); (try clear hi); have hnb19 := NB216_217.out; have hnc19 := NB217_216.out; have hcz20_0 : w18.cell? ⟨gb216, 0, none⟩ = some (.int .i64 a3_0) := (blk_cell BK216.out 0).trans rfl; have hcz20_1 : w18.cell? ⟨gb216, 1, none⟩ = some (.int .i64 a3_1) := (blk_cell BK216.out 1).trans rfl; have hcz20_2 : w18.cell? ⟨gb216, 2, none⟩ = some (.int .i64 a3_2) := (blk_cell BK216.out 2).trans rfl; have hfz20_0 := blk_frozen BK216.out 0; have hfz20_1 := blk_frozen BK216.out 1; have hfz20_2 := blk_frozen BK216.out 2) | (go_at_call 23; (with_reducible refine (gambrelref09_May.calls a3_0 a3_1 a3_2 true _ A13.out).mono ?_); rintro e w21 ⟨rfl, hb⟩; have n0_ := Aside0.mk (blk_below (g := gb215) (o := .cells #[.int .i64 a1_0, .int .i64 a1_1, .int .i64 a1_2] 23 (0, 0)) (by (with_reducible repeat (first | refine blk_drewN ?_ _ | refine blk_drew ?_ | refine blk_alloc ?_ _)); exact BK215.out) hb); have n1_ := Aside0.mk (blk_below (g := gb216) (o := .cells #[.int .i64 a3_0, .int .i64 a3_1, .int .i64 a3_2] 23 (0, 0)) (by (with_reducible repeat (first | refine blk_drewN ?_ _ | refine blk_drew ?_ | refine blk_alloc ?_ _)); exact BK216.out) hb); have n2_ := Aside0.mk (blk_below (g := gb217) (o := .cells #[.bool false, .bool false, .slice none 0 0, .slice none 0 0] 34 (0, 0)) (by (with_reducible repeat (first | refine blk_drewN ?_ _ | refine blk_drew ?_ | refine blk_alloc ?_ _)); exact BK217.out) hb); have n3_ := Aside0.mk (below_step (by repeat (first | (with_reducible first | exact HB.out | apply below_alloc | apply pw_below_drewN | apply below_drew1 | refine below_set ?_ GE215.out | refine below_set ?_ GE216.out | refine below_set ?_ GE217.out) | exact HB.out)) hb); clear BK215; clear BK216; clear BK217; clear HB; have BK215 := n0_; have BK216 := n1_; have BK217 := n2_; have HB := n3_; clear n0_ n1_ n2_ n3_; (try clear hb); (try clear hb2); (try clear hk); (try clear hi); have hcz22_0 : w21.cell? ⟨gb215, 0, none⟩ = some (.int .i64 a1_0) := (blk_cell BK215.out 0).trans rfl; have hcz22_1 : w21.cell? ⟨gb215, 1, none⟩ = some (.int .i64 a1_1) := (blk_cell BK215.out 1).trans rfl; have hcz22_2 : w21.cell? ⟨gb215, 2, none⟩ = some (.int .i64 a1_2) := (blk_cell BK215.out 2).trans rfl; have hfz22_0 := blk_frozen BK215.out 0; have hfz22_1 := blk_frozen BK215.out 1; have hfz22_2 := blk_frozen BK215.out 2))
     go_meet
     case rel => exact ⟨_, (((l2.length : Int) != (wrap64 (a1_1 + a1_2)))), (by first | rfl | (simp; done) | (simp [*]; done)), H', ⟨by first | omega | exact Nat.le_refl _⟩, ⟨by (with_reducible repeat (first | refine blk_drewN ?_ _ | refine blk_drew ?_ | refine blk_alloc ?_ _)); exact BK215.out⟩, ⟨by (with_reducible repeat (first | refine blk_drewN ?_ _ | refine blk_drew ?_ | refine blk_alloc ?_ _)); exact BK216.out⟩, ⟨by (with_reducible repeat (first | refine blk_drewN ?_ _ | refine blk_drew ?_ | refine blk_alloc ?_ _)); exact BK217.out⟩, ⟨by repeat (first | (with_reducible first | exact HB.out | apply below_alloc | apply pw_below_drewN | apply below_drew1 | refine below_set ?_ GE215.out | refine below_set ?_ GE216.out | refine below_set ?_ GE217.out) | exact HB.out)⟩⟩
    ·replace c14 := Bool.eq_false_iff.mpr c14
     subst c14
     have H1 : (gambrelref22_Of.j0 k a0 l2 true a1_0 a1_1 a1_2 a3_0 a3_1 a3_2) = some (r1, r2, r3, r4, r5) := by rw [if_neg (show ¬ (false = true) by decide)] at H; exact H
     clear H
     have H := H1
     clear H1
     have H' := Aside0.mk H
     clear H
     go_wp2_with (first | ((with_reducible refine gate_callee (f := 22) rfl ?_); refine goesL_ (some 23) rfl rfl Tryd.func22 (by kernel_rfl) rfl #[.string a0] rfl (by (try simp only [List.map_toArray, List.map_cons, List.map_nil]); first | done | rfl | (simp only [List.length_drop, List.length_take]; rfl)) ?_; (with_reducible refine (gambrelref15_May.calls k a0 true _ A9.out).mono ?_); rintro e w' ⟨rfl, ⟨nd, rfl⟩⟩; refine ⟨_, rfl, ?_⟩; have hnb23 := NB215_216.out; have hnc23 := NB216_215.out; have hnb24 := NB215_217.out; have hnc24 := NB217_215.out; have hcz25_0 : w8.cell? ⟨gb215, 0, none⟩ = some (.int .i64 a1_0) := (blk_cell BK215.out 0).trans rfl; have hcz25_1 : w8.cell? ⟨gb215, 1, none⟩ = some (.int .i64 a1_1) := (blk_cell BK215.out 1).trans rfl; have hcz25_2 : w8.cell? ⟨gb215, 2, none⟩ = some (.int .i64 a1_2) := (blk_cell BK215.out 2).trans rfl; have hfz25_0 := blk_frozen BK215.out 0; have hfz25_1 := blk_frozen BK215.out 1; have hfz25_2 := blk_frozen BK215.out 2) | (go_at_call 23; (with_reducible refine (gambrelref09_May.calls a1_0 a1_1 a1_2 true _ A11.out).mono ?_); rintro e w26 ⟨rfl, hb⟩; have n0_ := Aside0.mk (blk_below (g := gb215) (o := .cells #[.int .i64 a1_0, .int .i64 a1_1, .int .i64 a1_2] 23 (0, 0)) (by (with_reducible repeat (first | refine blk_drewN ?_ _ | refine blk_drew ?_ | refine blk_alloc ?_ _)); exact BK215.out) hb); have n1_ := Aside0.mk (blk_below (g := gb216) (o := .cells #[.int .i64 a3_0, .int .i64 a3_1, .int .i64 a3_2] 23 (0, 0)) (by (with_reducible repeat (first | refine blk_drewN ?_ _ | refine blk_drew ?_ | refine blk_alloc ?_ _)); exact BK216.out) hb); have n2_ := Aside0.mk (blk_below (g := gb217) (o := .cells #[.bool false, .bool false, .slice none 0 0, .slice none 0 0] 34 (0, 0)) (by (with_reducible repeat (first | refine blk_drewN ?_ _ | refine blk_drew ?_ | refine blk_alloc ?_ _)); exact BK217.out) hb); have n3_ := Aside0.mk (below_step (by repeat (first | (with_reducible first | exact HB.out | apply below_alloc | apply pw_below_drewN | apply below_drew1 | refine below_set ?_ GE215.out | refine below_set ?_ GE216.out | refine below_set ?_ GE217.out) | exact HB.out)) hb); clear BK215; clear BK216; clear BK217; clear HB; have BK215 := n0_; have BK216 := n1_; have BK217 := n2_; have HB := n3_; clear n0_ n1_ n2_ n3_; (try clear hb); (try clear hb2); (try clear hk); (try clear hi); have hnb27 := NB216_217.out; have hnc27 := NB217_216.out; have hcz28_0 : w26.cell? ⟨gb216, 0, none⟩ = some (.int .i64 a3_0) := (blk_cell BK216.out 0).trans rfl; have hcz28_1 : w26.cell? ⟨gb216, 1, none⟩ = some (.int .i64 a3_1) := (blk_cell BK216.out 1).trans rfl; have hcz28_2 : w26.cell? ⟨gb216, 2, none⟩ = some (.int .i64 a3_2) := (blk_cell BK216.out 2).trans rfl; have hfz28_0 := blk_frozen BK216.out 0; have hfz28_1 := blk_frozen BK216.out 1; have hfz28_2 := blk_frozen BK216.out 2) | (go_at_call 23; (with_reducible refine (gambrelref09_May.calls a3_0 a3_1 a3_2 false _ A13.out).mono ?_); rintro e w29 ⟨rfl, hb⟩; have n0_ := Aside0.mk (blk_below (g := gb215) (o := .cells #[.int .i64 a1_0, .int .i64 a1_1, .int .i64 a1_2] 23 (0, 0)) (by (with_reducible repeat (first | refine blk_drewN ?_ _ | refine blk_drew ?_ | refine blk_alloc ?_ _)); exact BK215.out) hb); have n1_ := Aside0.mk (blk_below (g := gb216) (o := .cells #[.int .i64 a3_0, .int .i64 a3_1, .int .i64 a3_2] 23 (0, 0)) (by (with_reducible repeat (first | refine blk_drewN ?_ _ | refine blk_drew ?_ | refine blk_alloc ?_ _)); exact BK216.out) hb); have n2_ := Aside0.mk (blk_below (g := gb217) (o := .cells #[.bool false, .bool false, .slice none 0 0, .slice none 0 0] 34 (0, 0)) (by (with_reducible repeat (first | refine blk_drewN ?_ _ | refine blk_drew ?_ | refine blk_alloc ?_ _)); exact BK217.out) hb); have n3_ := Aside0.mk (below_step (by repeat (first | (with_reducible first | exact HB.out | apply below_alloc | apply pw_below_drewN | apply below_drew1 | refine below_set ?_ GE215.out | refine below_set ?_ GE216.out | refine below_set ?_ GE217.out) | exact HB.out)) hb); clear BK215; clear BK216; clear BK217; clear HB; have BK215 := n0_; have BK216 := n1_; have BK217 := n2_; have HB := n3_; clear n0_ n1_ n2_ n3_; (try clear hb); (try clear hb2); (try clear hk); (try clear hi)))
     go_meet
     case rel => exact ⟨_, (true), (by first | rfl | (simp; done) | (simp [*]; done)), H', ⟨by first | omega | exact Nat.le_refl _⟩, ⟨by (with_reducible repeat (first | refine blk_drewN ?_ _ | refine blk_drew ?_ | refine blk_alloc ?_ _)); exact BK215.out⟩, ⟨by (with_reducible repeat (first | refine blk_drewN ?_ _ | refine blk_drew ?_ | refine blk_alloc ?_ _)); exact BK216.out⟩, ⟨by (with_reducible repeat (first | refine blk_drewN ?_ _ | refine blk_drew ?_ | refine blk_alloc ?_ _)); exact BK217.out⟩, ⟨by repeat (first | (with_reducible first | exact HB.out | apply below_alloc | apply pw_below_drewN | apply below_drew1 | refine below_set ?_ GE215.out | refine below_set ?_ GE216.out | refine below_set ?_ GE217.out) | exact HB.out)⟩⟩
   ·replace c12 := Bool.eq_false_iff.mpr c12
    subst c12
    have H1 : (gambrelref22_Of.j0 k a0 l2 true a1_0 a1_1 a1_2 a3_0 a3_1 a3_2) = some (r1, r2, r3, r4, r5) := by rw [if_neg (show ¬ (false = true) by decide)] at H; exact H
    clear H
    have H := H1
    clear H1
    have H' := Aside0.mk H
    clear H
    go_wp2_with (first | ((with_reducible refine gate_callee (f := 22) rfl ?_); refine goesL_ (some 23) rfl rfl Tryd.func22 (by kernel_rfl) rfl #[.string a0] rfl (by (try simp only [List.map_toArray, List.map_cons, List.map_nil]); first | done | rfl | (simp only [List.length_drop, List.length_take]; rfl)) ?_; (with_reducible refine (gambrelref15_May.calls k a0 true _ A9.out).mono ?_); rintro e w' ⟨rfl, ⟨nd, rfl⟩⟩; refine ⟨_, rfl, ?_⟩; have hnb30 := NB215_216.out; have hnc30 := NB216_215.out; have hnb31 := NB215_217.out; have hnc31 := NB217_215.out; have hcz32_0 : w8.cell? ⟨gb215, 0, none⟩ = some (.int .i64 a1_0) := (blk_cell BK215.out 0).trans rfl; have hcz32_1 : w8.cell? ⟨gb215, 1, none⟩ = some (.int .i64 a1_1) := (blk_cell BK215.out 1).trans rfl; have hcz32_2 : w8.cell? ⟨gb215, 2, none⟩ = some (.int .i64 a1_2) := (blk_cell BK215.out 2).trans rfl; have hfz32_0 := blk_frozen BK215.out 0; have hfz32_1 := blk_frozen BK215.out 1; have hfz32_2 := blk_frozen BK215.out 2) | (go_at_call 23; (with_reducible refine (gambrelref09_May.calls a1_0 a1_1 a1_2 false _ A11.out).mono ?_); rintro e w33 ⟨rfl, hb⟩; have n0_ := Aside0.mk (blk_below (g := gb215) (o := .cells #[.int .i64 a1_0, .int .i64 a1_1, .int .i64 a1_2] 23 (0, 0)) (by (with_reducible repeat (first | refine blk_drewN ?_ _ | refine blk_drew ?_ | refine blk_alloc ?_ _)); exact BK215.out) hb); have n1_ := Aside0.mk (blk_below (g := gb216) (o := .cells #[.int .i64 a3_0, .int .i64 a3_1, .int .i64 a3_2] 23 (0, 0)) (by (with_reducible repeat (first | refine blk_drewN ?_ _ | refine blk_drew ?_ | refine blk_alloc ?_ _)); exact BK216.out) hb); have n2_ := Aside0.mk (blk_below (g := gb217) (o := .cells #[.bool false, .bool false, .slice none 0 0, .slice none 0 0] 34 (0, 0)) (by (with_reducible repeat (first | refine blk_drewN ?_ _ | refine blk_drew ?_ | refine blk_alloc ?_ _)); exact BK217.out) hb); have n3_ := Aside0.mk (below_step (by repeat (first | (with_reducible first | exact HB.out | apply below_alloc | apply pw_below_drewN | apply below_drew1 | refine below_set ?_ GE215.out | refine below_set ?_ GE216.out | refine below_set ?_ GE217.out) | exact HB.out)) hb); clear BK215; clear BK216; clear BK217; clear HB; have BK215 := n0_; have BK216 := n1_; have BK217 := n2_; have HB := n3_; clear n0_ n1_ n2_ n3_; (try clear hb); (try clear hb2); (try clear hk); (try clear hi)))
    go_meet
    case rel => exact ⟨_, (true), (by first | rfl | (simp; done) | (simp [*]; done)), H', ⟨by first | omega | exact Nat.le_refl _⟩, ⟨by (with_reducible repeat (first | refine blk_drewN ?_ _ | refine blk_drew ?_ | refine blk_alloc ?_ _)); exact BK215.out⟩, ⟨by (with_reducible repeat (first | refine blk_drewN ?_ _ | refine blk_drew ?_ | refine blk_alloc ?_ _)); exact BK216.out⟩, ⟨by (with_reducible repeat (first | refine blk_drewN ?_ _ | refine blk_drew ?_ | refine blk_alloc ?_ _)); exact BK217.out⟩, ⟨by repeat (first | (with_reducible first | exact HB.out | apply below_alloc | apply pw_below_drewN | apply below_drew1 | refine below_set ?_ GE215.out | refine below_set ?_ GE216.out | refine below_set ?_ GE217.out) | exact HB.out)⟩⟩
  ·replace c10 := Bool.eq_false_iff.mpr c10
   subst c10
   have H1 : (gambrelref22_Of.j0 k a0 l2 true a1_0 a1_1 a1_2 a3_0 a3_1 a3_2) = some (r1, r2, r3, r4, r5) := by rw [if_neg (show ¬ (false = true) by decide)] at H; exact H
   clear H
   have H := H1
   clear H1
   have H' := Aside0.mk H
   clear H
   go_wp2_with (first | ((with_reducible refine gate_callee (f := 22) rfl ?_); refine goesL_ (some 23) rfl rfl Tryd.func22 (by kernel_rfl) rfl #[.string a0] rfl (by (try simp only [List.map_toArray, List.map_cons, List.map_nil]); first | done | rfl | (simp only [List.length_drop, List.length_take]; rfl)) ?_; (with_reducible refine (gambrelref15_May.calls k a0 false _ A9.out).mono ?_); rintro e w' ⟨rfl, ⟨nd, rfl⟩⟩; refine ⟨_, rfl, ?_⟩))
   go_meet
   case rel => exact ⟨_, (true), (by first | rfl | (simp; done) | (simp [*]; done)), H', ⟨by first | omega | exact Nat.le_refl _⟩, ⟨by (with_reducible repeat (first | refine blk_drewN ?_ _ | refine blk_drew ?_ | refine blk_alloc ?_ _)); exact BK215.out⟩, ⟨by (with_reducible repeat (first | refine blk_drewN ?_ _ | refine blk_drew ?_ | refine blk_alloc ?_ _)); exact BK216.out⟩, ⟨by (with_reducible repeat (first | refine blk_drewN ?_ _ | refine blk_drew ?_ | refine blk_alloc ?_ _)); exact BK217.out⟩, ⟨by repeat (first | (with_reducible first | exact HB.out | apply below_alloc | apply pw_below_drewN | apply below_drew1 | refine below_set ?_ GE215.out | refine below_set ?_ GE216.out | refine below_set ?_ GE217.out) | exact HB.out)⟩⟩
 case rest =>
  clear HC5
  try clear c1
  try clear c2
  try clear p2
  try clear c3
  try clear p6
  try clear c9
  try clear c10
  try clear c12
  try clear c14
  try clear c15
  try clear c16
  try clear c19
  try clear c22
  try clear c23
  try clear c24
  try clear c27
  try clear c30
  try clear c31
  try clear hcz17_0
  try clear hcz17_1
  try clear hcz17_2
  try clear hcz20_0
  try clear hcz20_1
  try clear hcz20_2
  try clear hcz22_0
  try clear hcz22_1
  try clear hcz22_2
  try clear hcz25_0
  try clear hcz25_1
  try clear hcz25_2
  try clear hcz28_0
  try clear hcz28_1
  try clear hcz28_2
  try clear hcz32_0
  try clear hcz32_1
  try clear hcz32_2
  try clear hfz17_0
  try clear hfz17_1
  try clear hfz17_2
  try clear hfz20_0
  try clear hfz20_1
  try clear hfz20_2
  try clear hfz22_0
  try clear hfz22_1
  try clear hfz22_2
  try clear hfz25_0
  try clear hfz25_1
  try clear hfz25_2
  try clear hfz28_0
  try clear hfz28_1
  try clear hfz28_2
  try clear hfz32_0
  try clear hfz32_1
  try clear hfz32_2
  obtain ⟨kq, x44_4, rfl, HA, HJ4, BK215, BK216, BK217, HB⟩ := hcut
  cases kq with
  | zero => exact absurd HA.out (by simp [gambrelref22_Of.j0])
  | succ kj4 =>
   have H := HA.out
   clear HA
   simp only [gambrelref22_Of.j0] at H
   by_cases c34 : x44_4 = true
   ·subst c34
    have H1 : (some (false, false, ([] : List ByteArray), ([] : List ByteArray), 1)) = some (r1, r2, r3, r4, r5) := by rw [if_pos rfl] at H; exact H
    clear H
    have H := H1
    clear H1
    simp only [Option.some.injEq, Prod.mk.injEq] at H
    obtain ⟨rfl, rfl, rfl, rfl, rfl⟩ := H
    have hnb35 := NB217_215.out
    have hnc35 := NB215_217.out
    have hnb36 := NB217_216.out
    have hnc36 := NB216_217.out
    have hcz37_0 : wc.cell? ⟨gb217, 0, none⟩ = some (.bool false) := (blk_cell BK217.out 0).trans rfl
    have hcz37_1 : wc.cell? ⟨gb217, 1, none⟩ = some (.bool false) := (blk_cell BK217.out 1).trans rfl
    have hcz37_2 : wc.cell? ⟨gb217, 2, none⟩ = some (.slice none 0 0) := (blk_cell BK217.out 2).trans rfl
    have hcz37_3 : wc.cell? ⟨gb217, 3, none⟩ = some (.slice none 0 0) := (blk_cell BK217.out 3).trans rfl
    have hfz37_0 := blk_frozen BK217.out 0
    have hfz37_1 := blk_frozen BK217.out 1
    have hfz37_2 := blk_frozen BK217.out 2
    have hfz37_3 := blk_frozen BK217.out 3
    go_wp2
    refine bodyPost_ret (results_ct rfl _ _ gb217 34 #[.bool false, .bool false, .slice none 0 0, .slice none 0 0] (0, 0) _ rfl (by (with_reducible repeat (first | refine blk_drewN ?_ _ | refine blk_drew ?_ | refine blk_alloc ?_ _)); refine blk_put (cs := #[.bool false, .bool false, .slice none 0 0, .slice none 0 0]) ?_ 3 _ rfl; (with_reducible repeat (first | refine blk_drewN ?_ _ | refine blk_drew ?_ | refine blk_alloc ?_ _)); refine blk_put (cs := #[.bool false, .bool false, .slice none 0 0, .slice none 0 0]) ?_ 2 _ rfl; (with_reducible repeat (first | refine blk_drewN ?_ _ | refine blk_drew ?_ | refine blk_alloc ?_ _)); refine blk_put (cs := #[.bool false, .bool false, .slice none 0 0, .slice none 0 0]) ?_ 1 _ rfl; (with_reducible repeat (first | refine blk_drewN ?_ _ | refine blk_drew ?_ | refine blk_alloc ?_ _)); refine blk_put (cs := #[.bool false, .bool false, .slice none 0 0, .slice none 0 0]) ?_ 0 _ rfl; (with_reducible repeat (first | refine blk_drewN ?_ _ | refine blk_drew ?_ | refine blk_alloc ?_ _)); exact BK217.out) Tryd.underlying34 rfl (by kernel_rfl)) rfl ?_
    exact ⟨_, _, by first | rfl | (simp [errW_none, errW_some] <;> rfl) | (simp [*, errW_none, errW_some] <;> rfl), by first | exact Kd.R_nil _ _ _ _ _ | exact Kd.N_nil _ _ _ _ _ | exact Kd.V_nil _ _ _ _ _ | exact Kd.Q_nil _ _ _ _ _ | exact Kd.S_nil _ _ _ _ _, by first | exact Kd.R_nil _ _ _ _ _ | exact Kd.N_nil _ _ _ _ _ | exact Kd.V_nil _ _ _ _ _ | exact Kd.Q_nil _ _ _ _ _ | exact Kd.S_nil _ _ _ _ _, by repeat (first | (with_reducible first | exact HB.out | apply below_alloc | apply pw_below_drewN | apply below_drew1 | refine below_set ?_ GE215.out | refine below_set ?_ GE216.out | refine below_set ?_ GE217.out) | exact HB.out)⟩
   ·replace c34 := Bool.eq_false_iff.mpr c34
    subst c34
    have H1 : ((gambrelref09_Of.f a1_0).bind fun bt221 => ((gambrelref09_Of.f a3_0).bind fun bt228 => (if a1_1 = a3_1 then ((gambrelref15_Set.f kj4 a0 a1_0 a1_1 a1_2).bind fun bt236 => ((gambrelref15_Set.f kj4 a0 a3_0 a3_1 a3_2).bind fun bt240 => (gambrelref22_Of.l0 kj4 l2 bt236.1 bt240.1 0 (eqT23 a1_0 a3_0 a1_1 a3_1 a1_2 a3_2) (bt221.2.2.2.1 == bt228.2.2.2.1) ([] : List ByteArray)))) else ((gambrelref15_Set.f kj4 a0 a1_0 a1_1 a1_2).bind fun bt261 => ((gambrelref15_Set.f kj4 a0 a3_0 a3_1 a3_2).bind fun bt265 => (gambrelref22_Of.l0 kj4 l2 bt261.1 bt265.1 0 (eqT23 a1_0 a3_0 a1_1 a3_1 a1_2 a3_2) false ([] : List ByteArray))))))) = some (r1, r2, r3, r4, r5) := by rw [if_neg (show ¬ (false = true) by decide)] at H; exact H
    clear H
    have H := H1
    clear H1
    replace H := Option.bind_eq_some_iff.mp H
    obtain ⟨⟨t221, t222, t223, t224, t225, t226⟩, A380, H⟩ := H
    replace H : ((gambrelref09_Of.f a3_0).bind fun bt228 => (if a1_1 = a3_1 then ((gambrelref15_Set.f kj4 a0 a1_0 a1_1 a1_2).bind fun bt236 => ((gambrelref15_Set.f kj4 a0 a3_0 a3_1 a3_2).bind fun bt240 => (gambrelref22_Of.l0 kj4 l2 bt236.1 bt240.1 0 (eqT23 a1_0 a3_0 a1_1 a3_1 a1_2 a3_2) (t224 == bt228.2.2.2.1) ([] : List ByteArray)))) else ((gambrelref15_Set.f kj4 a0 a1_0 a1_1 a1_2).bind fun bt261 => ((gambrelref15_Set.f kj4 a0 a3_0 a3_1 a3_2).bind fun bt265 => (gambrelref22_Of.l0 kj4 l2 bt261.1 bt265.1 0 (eqT23 a1_0 a3_0 a1_1 a3_1 a1_2 a3_2) false ([] : List ByteArray)))))) = some (r1, r2, r3, r4, r5) := H
    have A38 := Aside0.mk A380
    clear A380
    replace H := Option.bind_eq_some_iff.mp H
    obtain ⟨⟨t228, t229, t230, t231, t232, t233⟩, A390, H⟩ := H
    replace H : (if a1_1 = a3_1 then ((gambrelref15_Set.f kj4 a0 a1_0 a1_1 a1_2).bind fun bt236 => ((gambrelref15_Set.f kj4 a0 a3_0 a3_1 a3_2).bind fun bt240 => (gambrelref22_Of.l0 kj4 l2 bt236.1 bt240.1 0 (eqT23 a1_0 a3_0 a1_1 a3_1 a1_2 a3_2) (t224 == t231) ([] : List ByteArray)))) else ((gambrelref15_Set.f kj4 a0 a1_0 a1_1 a1_2).bind fun bt261 => ((gambrelref15_Set.f kj4 a0 a3_0 a3_1 a3_2).bind fun bt265 => (gambrelref22_Of.l0 kj4 l2 bt261.1 bt265.1 0 (eqT23 a1_0 a3_0 a1_1 a3_1 a1_2 a3_2) false ([] : List ByteArray))))) = some (r1, r2, r3, r4, r5) := H
    have A39 := Aside0.mk A390
    clear A390
    by_cases c40 : a1_1 = a3_1
    ·rw [if_pos c40] at H
     have c40b0 : (a1_1 == a3_1) = true := beq_iff_eq.mpr c40
     have c40b1 : (a1_1 != a3_1) = false := bne_eq_false_iff_eq.mpr c40
     clear c40
     replace H := Option.bind_eq_some_iff.mp H
     obtain ⟨⟨t236, t239⟩, A410, H⟩ := H
     replace H : ((gambrelref15_Set.f kj4 a0 a3_0 a3_1 a3_2).bind fun bt240 => (gambrelref22_Of.l0 kj4 l2 t236 bt240.1 0 (eqT23 a1_0 a3_0 a1_1 a3_1 a1_2 a3_2) (t224 == t231) ([] : List ByteArray))) = some (r1, r2, r3, r4, r5) := H
     have A41 := Aside0.mk A410
     clear A410
     replace H := Option.bind_eq_some_iff.mp H
     obtain ⟨⟨t240, t243⟩, A420, H⟩ := H
     replace H : (gambrelref22_Of.l0 kj4 l2 t236 t240 0 (eqT23 a1_0 a3_0 a1_1 a3_1 a1_2 a3_2) (t224 == t231) ([] : List ByteArray)) = some (r1, r2, r3, r4, r5) := H
     have A42 := Aside0.mk A420
     clear A420
     have H' := Aside0.mk H
     clear H
     have hnb43 := NB215_216.out
     have hnc43 := NB216_215.out
     have hnb44 := NB215_217.out
     have hnc44 := NB217_215.out
     have hcz45_0 : wc.cell? ⟨gb215, 0, none⟩ = some (.int .i64 a1_0) := (blk_cell BK215.out 0).trans rfl
     have hcz45_1 : wc.cell? ⟨gb215, 1, none⟩ = some (.int .i64 a1_1) := (blk_cell BK215.out 1).trans rfl
     have hcz45_2 : wc.cell? ⟨gb215, 2, none⟩ = some (.int .i64 a1_2) := (blk_cell BK215.out 2).trans rfl
     have hfz45_0 := blk_frozen BK215.out 0
     have hfz45_1 := blk_frozen BK215.out 1
     have hfz45_2 := blk_frozen BK215.out 2
     try go_wp2_with (first | ((with_reducible refine gate_callee (f := 24) rfl ?_); refine goesL_ (some 49) rfl rfl Tryd.func24 (by kernel_rfl) rfl #[.int .i64 a1_0] rfl (by (try simp only [List.map_toArray, List.map_cons, List.map_nil]); first | done | rfl | (simp only [List.length_drop, List.length_take]; rfl)) ?_; (with_reducible refine (gambrelref09_Of.calls a1_0 t221 t222 t223 t224 t225 t226 _ A38.out).mono ?_); rintro e w46 ⟨rfl, hb⟩; refine ⟨_, rfl, ?_⟩; have n0_ := Aside0.mk (blk_below (g := gb215) (o := .cells #[.int .i64 a1_0, .int .i64 a1_1, .int .i64 a1_2] 23 (0, 0)) (by (with_reducible repeat (first | refine blk_drewN ?_ _ | refine blk_drew ?_ | refine blk_alloc ?_ _)); exact BK215.out) hb); have n1_ := Aside0.mk (blk_below (g := gb216) (o := .cells #[.int .i64 a3_0, .int .i64 a3_1, .int .i64 a3_2] 23 (0, 0)) (by (with_reducible repeat (first | refine blk_drewN ?_ _ | refine blk_drew ?_ | refine blk_alloc ?_ _)); exact BK216.out) hb); have n2_ := Aside0.mk (blk_below (g := gb217) (o := .cells #[.bool false, .bool false, .slice none 0 0, .slice none 0 0] 34 (0, 0)) (by (with_reducible repeat (first | refine blk_drewN ?_ _ | refine blk_drew ?_ | refine blk_alloc ?_ _)); exact BK217.out) hb); have n3_ := Aside0.mk (below_step (by repeat (first | (with_reducible first | exact HB.out | apply below_alloc | apply pw_below_drewN | apply below_drew1 | refine below_set ?_ GE215.out | refine below_set ?_ GE216.out | refine below_set ?_ GE217.out) | exact HB.out)) hb); clear BK215; clear BK216; clear BK217; clear HB; have BK215 := n0_; have BK216 := n1_; have BK217 := n2_; have HB := n3_; clear n0_ n1_ n2_ n3_; (try clear hb); (try clear hb2); (try clear hk); (try clear hi)) | ((with_reducible refine gate_dst (N := 10) rfl ?_); (try (refine gate_guard (by rfl) ?_; dsimp only)); refine box_event ?hg (N := 10) ?hd (cs := #[.string (⟨#[]⟩ : ByteArray), .int .i64 0, .int .u32 0, .int .u8 0, .int .i64 0]) (t := 60) ?hr ?_; (case hd => rfl); (case hg => rfl); (case hr => first | (go_simp; done) | (go_simp; rfl)); intro gb227 hg w47 hbox hb; have n0_ := Aside0.mk (blk_below (g := gb215) (o := .cells #[.int .i64 a1_0, .int .i64 a1_1, .int .i64 a1_2] 23 (0, 0)) (by (with_reducible repeat (first | refine blk_drewN ?_ _ | refine blk_drew ?_ | refine blk_alloc ?_ _)); exact BK215.out) hb); have n1_ := Aside0.mk (blk_below (g := gb216) (o := .cells #[.int .i64 a3_0, .int .i64 a3_1, .int .i64 a3_2] 23 (0, 0)) (by (with_reducible repeat (first | refine blk_drewN ?_ _ | refine blk_drew ?_ | refine blk_alloc ?_ _)); exact BK216.out) hb); have n2_ := Aside0.mk (blk_below (g := gb217) (o := .cells #[.bool false, .bool false, .slice none 0 0, .slice none 0 0] 34 (0, 0)) (by (with_reducible repeat (first | refine blk_drewN ?_ _ | refine blk_drew ?_ | refine blk_alloc ?_ _)); exact BK217.out) hb); have n3_ := Aside0.mk (below_step (by repeat (first | (with_reducible first | exact HB.out | apply below_alloc | apply pw_below_drewN | apply below_drew1 | refine below_set ?_ GE215.out | refine below_set ?_ GE216.out | refine below_set ?_ GE217.out) | exact HB.out)) hb); have n4_ := Aside0.mk (hbox); have n5_ := Aside0.mk ((by rw [hg]; exact (below_size (by repeat (first | (with_reducible first | exact HB.out | apply below_alloc | apply pw_below_drewN | apply below_drew1 | refine below_set ?_ GE215.out | refine below_set ?_ GE216.out | refine below_set ?_ GE217.out) | exact HB.out))) : w.heap.size ≤ gb227)); have n6_ := Aside0.mk ((by rw [hg]; exact (below_size (by repeat (first | (with_reducible first | exact HB.out | apply below_alloc | apply pw_below_drewN | apply below_drew1 | refine below_set ?_ GE215.out | refine below_set ?_ GE216.out | refine below_set ?_ GE217.out) | exact HB.out))) : w.heap.size ≤ gb227)); have n7_ := Aside0.mk ((by rw [hg]; exact Nat.ne_of_lt (blk_lt (g := gb215) (o := .cells #[.int .i64 a1_0, .int .i64 a1_1, .int .i64 a1_2] 23 (0, 0)) (by (with_reducible repeat (first | refine blk_drewN ?_ _ | refine blk_drew ?_ | refine blk_alloc ?_ _)); exact BK215.out)) : gb215 ≠ gb227)); have n8_ := Aside0.mk ((by rw [hg]; exact Nat.ne_of_gt (blk_lt (g := gb215) (o := .cells #[.int .i64 a1_0, .int .i64 a1_1, .int .i64 a1_2] 23 (0, 0)) (by (with_reducible repeat (first | refine blk_drewN ?_ _ | refine blk_drew ?_ | refine blk_alloc ?_ _)); exact BK215.out)) : gb227 ≠ gb215)); have n9_ := Aside0.mk ((by rw [hg]; exact Nat.ne_of_lt (blk_lt (g := gb216) (o := .cells #[.int .i64 a3_0, .int .i64 a3_1, .int .i64 a3_2] 23 (0, 0)) (by (with_reducible repeat (first | refine blk_drewN ?_ _ | refine blk_drew ?_ | refine blk_alloc ?_ _)); exact BK216.out)) : gb216 ≠ gb227)); have n10_ := Aside0.mk ((by rw [hg]; exact Nat.ne_of_gt (blk_lt (g := gb216) (o := .cells #[.int .i64 a3_0, .int .i64 a3_1, .int .i64 a3_2] 23 (0, 0)) (by (with_reducible repeat (first | refine blk_drewN ?_ _ | refine blk_drew ?_ | refine blk_alloc ?_ _)); exact BK216.out)) : gb227 ≠ gb216)); have n11_ := Aside0.mk ((by rw [hg]; exact Nat.ne_of_lt (blk_lt (g := gb217) (o := .cells #[.bool false, .bool false, .slice none 0 0, .slice none 0 0] 34 (0, 0)) (by (with_reducible repeat (first | refine blk_drewN ?_ _ | refine blk_drew ?_ | refine blk_alloc ?_ _)); exact BK217.out)) : gb217 ≠ gb227)); have n12_ := Aside0.mk ((by rw [hg]; exact Nat.ne_of_gt (blk_lt (g := gb217) (o := .cells #[.bool false, .bool false, .slice none 0 0, .slice none 0 0] 34 (0, 0)) (by (with_reducible repeat (first | refine blk_drewN ?_ _ | refine blk_drew ?_ | refine blk_alloc ?_ _)); exact BK217.out)) : gb227 ≠ gb217)); clear BK215; clear BK216; clear BK217; clear HB; have BK215 := n0_; have BK216 := n1_; have BK217 := n2_; have HB := n3_; have BK227 := n4_; have GW227 := n5_; have GE227 := n6_; have NB215_227 := n7_; have NB227_215 := n8_; have NB216_227 := n9_; have NB227_216 := n10_; have NB217_227 := n11_; have NB227_217 := n12_; clear n0_ n1_ n2_ n3_ n4_ n5_ n6_ n7_ n8_ n9_ n10_ n11_ n12_; clear hb hbox hg; have hnb48 := NB227_215.out; have hnc48 := NB215_227.out; have hnb49 := NB227_216.out; have hnc49 := NB216_227.out; have hnb50 := NB227_217.out; have hnc50 := NB217_227.out; have hcz51_0 : w47.cell? ⟨gb227, 0, none⟩ = some (.string (⟨#[]⟩ : ByteArray)) := (blk_cell BK227.out 0).trans rfl; have hcz51_1 : w47.cell? ⟨gb227, 1, none⟩ = some (.int .i64 0) := (blk_cell BK227.out 1).trans rfl; have hcz51_2 : w47.cell? ⟨gb227, 2, none⟩ = some (.int .u32 0) := (blk_cell BK227.out 2).trans rfl; have hcz51_3 : w47.cell? ⟨gb227, 3, none⟩ = some (.int .u8 0) := (blk_cell BK227.out 3).trans rfl; have hcz51_4 : w47.cell? ⟨gb227, 4, none⟩ = some (.int .i64 0) := (blk_cell BK227.out 4).trans rfl; have hfz51_0 := blk_frozen BK227.out 0; have hfz51_1 := blk_frozen BK227.out 1; have hfz51_2 := blk_frozen BK227.out 2; have hfz51_3 := blk_frozen BK227.out 3; have hfz51_4 := blk_frozen BK227.out 4; have hnb52 := NB216_217.out; have hnc52 := NB217_216.out; have hcz53_0 : w47.cell? ⟨gb216, 0, none⟩ = some (.int .i64 a3_0) := (blk_cell BK216.out 0).trans rfl; have hcz53_1 : w47.cell? ⟨gb216, 1, none⟩ = some (.int .i64 a3_1) := (blk_cell BK216.out 1).trans rfl; have hcz53_2 : w47.cell? ⟨gb216, 2, none⟩ = some (.int .i64 a3_2) := (blk_cell BK216.out 2).trans rfl; have hfz53_0 := blk_frozen BK216.out 0; have hfz53_1 := blk_frozen BK216.out 1; have hfz53_2 := blk_frozen BK216.out 2) | ((with_reducible refine gate_callee (f := 24) rfl ?_); refine goesL_ (some 55) rfl rfl Tryd.func24 (by kernel_rfl) rfl #[.int .i64 a3_0] rfl (by (try simp only [List.map_toArray, List.map_cons, List.map_nil]); first | done | rfl | (simp only [List.length_drop, List.length_take]; rfl)) ?_; (with_reducible refine (gambrelref09_Of.calls a3_0 t228 t229 t230 t231 t232 t233 _ A39.out).mono ?_); rintro e w54 ⟨rfl, hb⟩; refine ⟨_, rfl, ?_⟩; have n0_ := Aside0.mk (blk_below (g := gb215) (o := .cells #[.int .i64 a1_0, .int .i64 a1_1, .int .i64 a1_2] 23 (0, 0)) (by (with_reducible repeat (first | refine blk_drewN ?_ _ | refine blk_drew ?_ | refine blk_alloc ?_ _)); refine blk_far ?_ NB215_227.out _; (with_reducible repeat (first | refine blk_drewN ?_ _ | refine blk_drew ?_ | refine blk_alloc ?_ _)); refine blk_far ?_ NB215_227.out _; (with_reducible repeat (first | refine blk_drewN ?_ _ | refine blk_drew ?_ | refine blk_alloc ?_ _)); refine blk_far ?_ NB215_227.out _; (with_reducible repeat (first | refine blk_drewN ?_ _ | refine blk_drew ?_ | refine blk_alloc ?_ _)); refine blk_far ?_ NB215_227.out _; (with_reducible repeat (first | refine blk_drewN ?_ _ | refine blk_drew ?_ | refine blk_alloc ?_ _)); refine blk_far ?_ NB215_227.out _; (with_reducible repeat (first | refine blk_drewN ?_ _ | refine blk_drew ?_ | refine blk_alloc ?_ _)); exact BK215.out) hb); have n1_ := Aside0.mk (blk_below (g := gb216) (o := .cells #[.int .i64 a3_0, .int .i64 a3_1, .int .i64 a3_2] 23 (0, 0)) (by (with_reducible repeat (first | refine blk_drewN ?_ _ | refine blk_drew ?_ | refine blk_alloc ?_ _)); refine blk_far ?_ NB216_227.out _; (with_reducible repeat (first | refine blk_drewN ?_ _ | refine blk_drew ?_ | refine blk_alloc ?_ _)); refine blk_far ?_ NB216_227.out _; (with_reducible repeat (first | refine blk_drewN ?_ _ | refine blk_drew ?_ | refine blk_alloc ?_ _)); refine blk_far ?_ NB216_227.out _; (with_reducible repeat (first | refine blk_drewN ?_ _ | refine blk_drew ?_ | refine blk_alloc ?_ _)); refine blk_far ?_ NB216_227.out _; (with_reducible repeat (first | refine blk_drewN ?_ _ | refine blk_drew ?_ | refine blk_alloc ?_ _)); refine blk_far ?_ NB216_227.out _; (with_reducible repeat (first | refine blk_drewN ?_ _ | refine blk_drew ?_ | refine blk_alloc ?_ _)); exact BK216.out) hb); have n2_ := Aside0.mk (blk_below (g := gb217) (o := .cells #[.bool false, .bool false, .slice none 0 0, .slice none 0 0] 34 (0, 0)) (by (with_reducible repeat (first | refine blk_drewN ?_ _ | refine blk_drew ?_ | refine blk_alloc ?_ _)); refine blk_far ?_ NB217_227.out _; (with_reducible repeat (first | refine blk_drewN ?_ _ | refine blk_drew ?_ | refine blk_alloc ?_ _)); refine blk_far ?_ NB217_227.out _; (with_reducible repeat (first | refine blk_drewN ?_ _ | refine blk_drew ?_ | refine blk_alloc ?_ _)); refine blk_far ?_ NB217_227.out _; (with_reducible repeat (first | refine blk_drewN ?_ _ | refine blk_drew ?_ | refine blk_alloc ?_ _)); refine blk_far ?_ NB217_227.out _; (with_reducible repeat (first | refine blk_drewN ?_ _ | refine blk_drew ?_ | refine blk_alloc ?_ _)); refine blk_far ?_ NB217_227.out _; (with_reducible repeat (first | refine blk_drewN ?_ _ | refine blk_drew ?_ | refine blk_alloc ?_ _)); exact BK217.out) hb); have n3_ := Aside0.mk (blk_below (g := gb227) (o := .cells #[.string t221, .int .i64 t222, .int .u32 t223, .int .u8 t224, .int .i64 t225] 60 (0, 0)) (by (with_reducible repeat (first | refine blk_drewN ?_ _ | refine blk_drew ?_ | refine blk_alloc ?_ _)); refine blk_put (cs := #[.string t221, .int .i64 t222, .int .u32 t223, .int .u8 t224, .int .i64 0]) ?_ 4 _ rfl; (with_reducible repeat (first | refine blk_drewN ?_ _ | refine blk_drew ?_ | refine blk_alloc ?_ _)); refine blk_put (cs := #[.string t221, .int .i64 t222, .int .u32 t223, .int .u8 0, .int .i64 0]) ?_ 3 _ rfl; (with_reducible repeat (first | refine blk_drewN ?_ _ | refine blk_drew ?_ | refine blk_alloc ?_ _)); refine blk_put (cs := #[.string t221, .int .i64 t222, .int .u32 0, .int .u8 0, .int .i64 0]) ?_ 2 _ rfl; (with_reducible repeat (first | refine blk_drewN ?_ _ | refine blk_drew ?_ | refine blk_alloc ?_ _)); refine blk_put (cs := #[.string t221, .int .i64 0, .int .u32 0, .int .u8 0, .int .i64 0]) ?_ 1 _ rfl; (with_reducible repeat (first | refine blk_drewN ?_ _ | refine blk_drew ?_ | refine blk_alloc ?_ _)); refine blk_put (cs := #[.string (⟨#[]⟩ : ByteArray), .int .i64 0, .int .u32 0, .int .u8 0, .int .i64 0]) ?_ 0 _ rfl; (with_reducible repeat (first | refine blk_drewN ?_ _ | refine blk_drew ?_ | refine blk_alloc ?_ _)); exact BK227.out) hb); have n4_ := Aside0.mk (below_step (by repeat (first | (with_reducible first | exact HB.out | apply below_alloc | apply pw_below_drewN | apply below_drew1 | refine below_set ?_ GE215.out | refine below_set ?_ GE216.out | refine below_set ?_ GE217.out | refine below_set ?_ GE227.out) | exact HB.out)) hb); clear BK215; clear BK216; clear BK217; clear BK227; clear HB; have BK215 := n0_; have BK216 := n1_; have BK217 := n2_; have BK227 := n3_; have HB := n4_; clear n0_ n1_ n2_ n3_ n4_; (try clear hb); (try clear hb2); (try clear hk); (try clear hi)) | ((with_reducible refine gate_dst (N := 12) rfl ?_); (try (refine gate_guard (by rfl) ?_; dsimp only)); refine box_event ?hg (N := 12) ?hd (cs := #[.string (⟨#[]⟩ : ByteArray), .int .i64 0, .int .u32 0, .int .u8 0, .int .i64 0]) (t := 60) ?hr ?_; (case hd => rfl); (case hg => rfl); (case hr => first | (go_simp; done) | (go_simp; rfl)); intro gb234 hg w55 hbox hb; have n0_ := Aside0.mk (blk_below (g := gb215) (o := .cells #[.int .i64 a1_0, .int .i64 a1_1, .int .i64 a1_2] 23 (0, 0)) (by (with_reducible repeat (first | refine blk_drewN ?_ _ | refine blk_drew ?_ | refine blk_alloc ?_ _)); exact BK215.out) hb); have n1_ := Aside0.mk (blk_below (g := gb216) (o := .cells #[.int .i64 a3_0, .int .i64 a3_1, .int .i64 a3_2] 23 (0, 0)) (by (with_reducible repeat (first | refine blk_drewN ?_ _ | refine blk_drew ?_ | refine blk_alloc ?_ _)); exact BK216.out) hb); have n2_ := Aside0.mk (blk_below (g := gb217) (o := .cells #[.bool false, .bool false, .slice none 0 0, .slice none 0 0] 34 (0, 0)) (by (with_reducible repeat (first | refine blk_drewN ?_ _ | refine blk_drew ?_ | refine blk_alloc ?_ _)); exact BK217.out) hb); have n3_ := Aside0.mk (blk_below (g := gb227) (o := .cells #[.string t221, .int .i64 t222, .int .u32 t223, .int .u8 t224, .int .i64 t225] 60 (0, 0)) (by (with_reducible repeat (first | refine blk_drewN ?_ _ | refine blk_drew ?_ | refine blk_alloc ?_ _)); exact BK227.out) hb); have n4_ := Aside0.mk (below_step (by repeat (first | (with_reducible first | exact HB.out | apply below_alloc | apply pw_below_drewN | apply below_drew1 | refine below_set ?_ GE215.out | refine below_set ?_ GE216.out | refine below_set ?_ GE217.out | refine below_set ?_ GE227.out) | exact HB.out)) hb); have n5_ := Aside0.mk (hbox); have n6_ := Aside0.mk ((by rw [hg]; exact (below_size (by repeat (first | (with_reducible first | exact HB.out | apply below_alloc | apply pw_below_drewN | apply below_drew1 | refine below_set ?_ GE215.out | refine below_set ?_ GE216.out | refine below_set ?_ GE217.out | refine below_set ?_ GE227.out) | exact HB.out))) : w.heap.size ≤ gb234)); have n7_ := Aside0.mk ((by rw [hg]; exact (below_size (by repeat (first | (with_reducible first | exact HB.out | apply below_alloc | apply pw_below_drewN | apply below_drew1 | refine below_set ?_ GE215.out | refine below_set ?_ GE216.out | refine below_set ?_ GE217.out | refine below_set ?_ GE227.out) | exact HB.out))) : w.heap.size ≤ gb234)); have n8_ := Aside0.mk ((by rw [hg]; exact Nat.ne_of_lt (blk_lt (g := gb215) (o := .cells #[.int .i64 a1_0, .int .i64 a1_1, .int .i64 a1_2] 23 (0, 0)) (by (with_reducible repeat (first | refine blk_drewN ?_ _ | refine blk_drew ?_ | refine blk_alloc ?_ _)); exact BK215.out)) : gb215 ≠ gb234)); have n9_ := Aside0.mk ((by rw [hg]; exact Nat.ne_of_gt (blk_lt (g := gb215) (o := .cells #[.int .i64 a1_0, .int .i64 a1_1, .int .i64 a1_2] 23 (0, 0)) (by (with_reducible repeat (first | refine blk_drewN ?_ _ | refine blk_drew ?_ | refine blk_alloc ?_ _)); exact BK215.out)) : gb234 ≠ gb215)); have n10_ := Aside0.mk ((by rw [hg]; exact Nat.ne_of_lt (blk_lt (g := gb216) (o := .cells #[.int .i64 a3_0, .int .i64 a3_1, .int .i64 a3_2] 23 (0, 0)) (by (with_reducible repeat (first | refine blk_drewN ?_ _ | refine blk_drew ?_ | refine blk_alloc ?_ _)); exact BK216.out)) : gb216 ≠ gb234)); have n11_ := Aside0.mk ((by rw [hg]; exact Nat.ne_of_gt (blk_lt (g := gb216) (o := .cells #[.int .i64 a3_0, .int .i64 a3_1, .int .i64 a3_2] 23 (0, 0)) (by (with_reducible repeat (first | refine blk_drewN ?_ _ | refine blk_drew ?_ | refine blk_alloc ?_ _)); exact BK216.out)) : gb234 ≠ gb216)); have n12_ := Aside0.mk ((by rw [hg]; exact Nat.ne_of_lt (blk_lt (g := gb217) (o := .cells #[.bool false, .bool false, .slice none 0 0, .slice none 0 0] 34 (0, 0)) (by (with_reducible repeat (first | refine blk_drewN ?_ _ | refine blk_drew ?_ | refine blk_alloc ?_ _)); exact BK217.out)) : gb217 ≠ gb234)); have n13_ := Aside0.mk ((by rw [hg]; exact Nat.ne_of_gt (blk_lt (g := gb217) (o := .cells #[.bool false, .bool false, .slice none 0 0, .slice none 0 0] 34 (0, 0)) (by (with_reducible repeat (first | refine blk_drewN ?_ _ | refine blk_drew ?_ | refine blk_alloc ?_ _)); exact BK217.out)) : gb234 ≠ gb217)); have n14_ := Aside0.mk ((by rw [hg]; exact Nat.ne_of_lt (blk_lt (g := gb227) (o := .cells #[.string t221, .int .i64 t222, .int .u32 t223, .int .u8 t224, .int .i64 t225] 60 (0, 0)) (by (with_reducible repeat (first | refine blk_drewN ?_ _ | refine blk_drew ?_ | refine blk_alloc ?_ _)); exact BK227.out)) : gb227 ≠ gb234)); have n15_ := Aside0.mk ((by rw [hg]; exact Nat.ne_of_gt (blk_lt (g := gb227) (o := .cells #[.string t221, .int .i64 t222, .int .u32 t223, .int .u8 t224, .int .i64 t225] 60 (0, 0)) (by (with_reducible repeat (first | refine blk_drewN ?_ _ | refine blk_drew ?_ | refine blk_alloc ?_ _)); exact BK227.out)) : gb234 ≠ gb227)); clear BK215; clear BK216; clear BK217; clear BK227; clear HB; have BK215 := n0_; have BK216 := n1_; have BK217 := n2_; have BK227 := n3_; have HB := n4_; have BK234 := n5_; have GW234 := n6_; have GE234 := n7_; have NB215_234 := n8_; have NB234_215 := n9_; have NB216_234 := n10_; have NB234_216 := n11_; have NB217_234 := n12_; have NB234_217 := n13_; have NB227_234 := n14_; have NB234_227 := n15_; clear n0_ n1_ n2_ n3_ n4_ n5_ n6_ n7_ n8_ n9_ n10_ n11_ n12_ n13_ n14_ n15_; clear hb hbox hg; have hnb56 := NB234_215.out; have hnc56 := NB215_234.out; have hnb57 := NB234_216.out; have hnc57 := NB216_234.out; have hnb58 := NB234_217.out; have hnc58 := NB217_234.out; have hnb59 := NB234_227.out; have hnc59 := NB227_234.out; have hcz60_0 : w55.cell? ⟨gb234, 0, none⟩ = some (.string (⟨#[]⟩ : ByteArray)) := (blk_cell BK234.out 0).trans rfl; have hcz60_1 : w55.cell? ⟨gb234, 1, none⟩ = some (.int .i64 0) := (blk_cell BK234.out 1).trans rfl; have hcz60_2 : w55.cell? ⟨gb234, 2, none⟩ = some (.int .u32 0) := (blk_cell BK234.out 2).trans rfl; have hcz60_3 : w55.cell? ⟨gb234, 3, none⟩ = some (.int .u8 0) := (blk_cell BK234.out 3).trans rfl; have hcz60_4 : w55.cell? ⟨gb234, 4, none⟩ = some (.int .i64 0) := (blk_cell BK234.out 4).trans rfl; have hfz60_0 := blk_frozen BK234.out 0; have hfz60_1 := blk_frozen BK234.out 1; have hfz60_2 := blk_frozen BK234.out 2; have hfz60_3 := blk_frozen BK234.out 3; have hfz60_4 := blk_frozen BK234.out 4))
     have n0_ : Aside0 ((((((w55.setCell ⟨gb234, 0, none⟩ (.string t228)).setCell ⟨gb234, 1, none⟩ (.int .i64 t229)).setCell ⟨gb234, 2, none⟩ (.int .u32 t230)).setCell ⟨gb234, 3, none⟩ (.int .u8 t231)).setCell ⟨gb234, 4, none⟩ (.int .i64 t232)).heap[gb215]? = some (.cells #[.int .i64 a1_0, .int .i64 a1_1, .int .i64 a1_2] 23 (0, 0))) := ⟨by (with_reducible repeat (first | refine blk_drewN ?_ _ | refine blk_drew ?_ | refine blk_alloc ?_ _)); refine blk_far ?_ NB215_234.out _; (with_reducible repeat (first | refine blk_drewN ?_ _ | refine blk_drew ?_ | refine blk_alloc ?_ _)); refine blk_far ?_ NB215_234.out _; (with_reducible repeat (first | refine blk_drewN ?_ _ | refine blk_drew ?_ | refine blk_alloc ?_ _)); refine blk_far ?_ NB215_234.out _; (with_reducible repeat (first | refine blk_drewN ?_ _ | refine blk_drew ?_ | refine blk_alloc ?_ _)); refine blk_far ?_ NB215_234.out _; (with_reducible repeat (first | refine blk_drewN ?_ _ | refine blk_drew ?_ | refine blk_alloc ?_ _)); refine blk_far ?_ NB215_234.out _; (with_reducible repeat (first | refine blk_drewN ?_ _ | refine blk_drew ?_ | refine blk_alloc ?_ _)); exact BK215.out⟩
     have n1_ : Aside0 ((((((w55.setCell ⟨gb234, 0, none⟩ (.string t228)).setCell ⟨gb234, 1, none⟩ (.int .i64 t229)).setCell ⟨gb234, 2, none⟩ (.int .u32 t230)).setCell ⟨gb234, 3, none⟩ (.int .u8 t231)).setCell ⟨gb234, 4, none⟩ (.int .i64 t232)).heap[gb216]? = some (.cells #[.int .i64 a3_0, .int .i64 a3_1, .int .i64 a3_2] 23 (0, 0))) := ⟨by (with_reducible repeat (first | refine blk_drewN ?_ _ | refine blk_drew ?_ | refine blk_alloc ?_ _)); refine blk_far ?_ NB216_234.out _; (with_reducible repeat (first | refine blk_drewN ?_ _ | refine blk_drew ?_ | refine blk_alloc ?_ _)); refine blk_far ?_ NB216_234.out _; (with_reducible repeat (first | refine blk_drewN ?_ _ | refine blk_drew ?_ | refine blk_alloc ?_ _)); refine blk_far ?_ NB216_234.out _; (with_reducible repeat (first | refine blk_drewN ?_ _ | refine blk_drew ?_ | refine blk_alloc ?_ _)); refine blk_far ?_ NB216_234.out _; (with_reducible repeat (first | refine blk_drewN ?_ _ | refine blk_drew ?_ | refine blk_alloc ?_ _)); refine blk_far ?_ NB216_234.out _; (with_reducible repeat (first | refine blk_drewN ?_ _ | refine blk_drew ?_ | refine blk_alloc ?_ _)); exact BK216.out⟩
     have n2_ : Aside0 ((((((w55.setCell ⟨gb234, 0, none⟩ (.string t228)).setCell ⟨gb234, 1, none⟩ (.int .i64 t229)).setCell ⟨gb234, 2, none⟩ (.int .u32 t230)).setCell ⟨gb234, 3, none⟩ (.int .u8 t231)).setCell ⟨gb234, 4, none⟩ (.int .i64 t232)).heap[gb217]? = some (.cells #[.bool false, .bool false, .slice none 0 0, .slice none 0 0] 34 (0, 0))) := ⟨by (with_reducible repeat (first | refine blk_drewN ?_ _ | refine blk_drew ?_ | refine blk_alloc ?_ _)); refine blk_far ?_ NB217_234.out _; (with_reducible repeat (first | refine blk_drewN ?_ _ | refine blk_drew ?_ | refine blk_alloc ?_ _)); refine blk_far ?_ NB217_234.out _; (with_reducible repeat (first | refine blk_drewN ?_ _ | refine blk_drew ?_ | refine blk_alloc ?_ _)); refine blk_far ?_ NB217_234.out _; (with_reducible repeat (first | refine blk_drewN ?_ _ | refine blk_drew ?_ | refine blk_alloc ?_ _)); refine blk_far ?_ NB217_234.out _; (with_reducible repeat (first | refine blk_drewN ?_ _ | refine blk_drew ?_ | refine blk_alloc ?_ _)); refine blk_far ?_ NB217_234.out _; (with_reducible repeat (first | refine blk_drewN ?_ _ | refine blk_drew ?_ | refine blk_alloc ?_ _)); exact BK217.out⟩
     have n3_ : Aside0 ((((((w55.setCell ⟨gb234, 0, none⟩ (.string t228)).setCell ⟨gb234, 1, none⟩ (.int .i64 t229)).setCell ⟨gb234, 2, none⟩ (.int .u32 t230)).setCell ⟨gb234, 3, none⟩ (.int .u8 t231)).setCell ⟨gb234, 4, none⟩ (.int .i64 t232)).heap[gb227]? = some (.cells #[.string t221, .int .i64 t222, .int .u32 t223, .int .u8 t224, .int .i64 t225] 60 (0, 0))) := ⟨by (with_reducible repeat (first | refine blk_drewN ?_ _ | refine blk_drew ?_ | refine blk_alloc ?_ _)); refine blk_far ?_ NB227_234.out _; (with_reducible repeat (first | refine blk_drewN ?_ _ | refine blk_drew ?_ | refine blk_alloc ?_ _)); refine blk_far ?_ NB227_234.out _; (with_reducible repeat (first | refine blk_drewN ?_ _ | refine blk_drew ?_ | refine blk_alloc ?_ _)); refine blk_far ?_ NB227_234.out _; (with_reducible repeat (first | refine blk_drewN ?_ _ | refine blk_drew ?_ | refine blk_alloc ?_ _)); refine blk_far ?_ NB227_234.out _; (with_reducible repeat (first | refine blk_drewN ?_ _ | refine blk_drew ?_ | refine blk_alloc ?_ _)); refine blk_far ?_ NB227_234.out _; (with_reducible repeat (first | refine blk_drewN ?_ _ | refine blk_drew ?_ | refine blk_alloc ?_ _)); exact BK227.out⟩
     have n4_ : Aside0 ((((((w55.setCell ⟨gb234, 0, none⟩ (.string t228)).setCell ⟨gb234, 1, none⟩ (.int .i64 t229)).setCell ⟨gb234, 2, none⟩ (.int .u32 t230)).setCell ⟨gb234, 3, none⟩ (.int .u8 t231)).setCell ⟨gb234, 4, none⟩ (.int .i64 t232)).heap[gb234]? = some (.cells #[.string t228, .int .i64 t229, .int .u32 t230, .int .u8 t231, .int .i64 t232] 60 (0, 0))) := ⟨by (with_reducible repeat (first | refine blk_drewN ?_ _ | refine blk_drew ?_ | refine blk_alloc ?_ _)); refine blk_put (cs := #[.string t228, .int .i64 t229, .int .u32 t230, .int .u8 t231, .int .i64 0]) ?_ 4 _ rfl; (with_reducible repeat (first | refine blk_drewN ?_ _ | refine blk_drew ?_ | refine blk_alloc ?_ _)); refine blk_put (cs := #[.string t228, .int .i64 t229, .int .u32 t230, .int .u8 0, .int .i64 0]) ?_ 3 _ rfl; (with_reducible repeat (first | refine blk_drewN ?_ _ | refine blk_drew ?_ | refine blk_alloc ?_ _)); refine blk_put (cs := #[.string t228, .int .i64 t229, .int .u32 0, .int .u8 0, .int .i64 0]) ?_ 2 _ rfl; (with_reducible repeat (first | refine blk_drewN ?_ _ | refine blk_drew ?_ | refine blk_alloc ?_ _)); refine blk_put (cs := #[.string t228, .int .i64 0, .int .u32 0, .int .u8 0, .int .i64 0]) ?_ 1 _ rfl; (with_reducible repeat (first | refine blk_drewN ?_ _ | refine blk_drew ?_ | refine blk_alloc ?_ _)); refine blk_put (cs := #[.string (⟨#[]⟩ : ByteArray), .int .i64 0, .int .u32 0, .int .u8 0, .int .i64 0]) ?_ 0 _ rfl; (with_reducible repeat (first | refine blk_drewN ?_ _ | refine blk_drew ?_ | refine blk_alloc ?_ _)); exact BK234.out⟩
     have n5_ : Aside0 (Below w.heap.size w (((((w55.setCell ⟨gb234, 0, none⟩ (.string t228)).setCell ⟨gb234, 1, none⟩ (.int .i64 t229)).setCell ⟨gb234, 2, none⟩ (.int .u32 t230)).setCell ⟨gb234, 3, none⟩ (.int .u8 t231)).setCell ⟨gb234, 4, none⟩ (.int .i64 t232))) := ⟨by repeat (first | (with_reducible first | exact HB.out | apply below_alloc | apply pw_below_drewN | apply below_drew1 | refine below_set ?_ GE215.out | refine below_set ?_ GE216.out | refine below_set ?_ GE217.out | refine below_set ?_ GE227.out | refine below_set ?_ GE234.out) | exact HB.out)⟩
     (try clear BK215)
     (try clear BK216)
     (try clear BK217)
     (try clear BK227)
     (try clear BK234)
     (try clear HB)
     generalize (((((w55.setCell ⟨gb234, 0, none⟩ (.string t228)).setCell ⟨gb234, 1, none⟩ (.int .i64 t229)).setCell ⟨gb234, 2, none⟩ (.int .u32 t230)).setCell ⟨gb234, 3, none⟩ (.int .u8 t231)).setCell ⟨gb234, 4, none⟩ (.int .i64 t232)) = w61 at n0_ n1_ n2_ n3_ n4_ n5_ ⊢
     have BK215 := n0_
     have BK216 := n1_
     have BK217 := n2_
     have BK227 := n3_
     have BK234 := n4_
     have HB := n5_
     clear n0_ n1_ n2_ n3_ n4_ n5_
     have n0_ := Aside0.mk (blk_drew BK215.out)
     have n1_ := Aside0.mk (blk_drew BK216.out)
     have n2_ := Aside0.mk (blk_drew BK217.out)
     have n3_ := Aside0.mk (blk_drew BK227.out)
     have n4_ := Aside0.mk (blk_drew BK234.out)
     have n5_ := Aside0.mk (below_drew1 HB.out)
     clear BK215
     clear BK216
     clear BK217
     clear BK227
     clear BK234
     clear HB
     have BK215 := n0_
     have BK216 := n1_
     have BK217 := n2_
     have BK227 := n3_
     have BK234 := n4_
     have HB := n5_
     clear n0_ n1_ n2_ n3_ n4_ n5_
     refine start_ (n := 18) (S := fun w' => w'.cell? ⟨gb215, 0, none⟩ = some (.int .i64 a1_0) ∧ w'.cell? ⟨gb215, 1, none⟩ = some (.int .i64 a1_1) ∧ w'.cell? ⟨gb215, 2, none⟩ = some (.int .i64 a1_2) ∧ w'.cell? ⟨gb216, 0, none⟩ = some (.int .i64 a3_0) ∧ w'.cell? ⟨gb216, 1, none⟩ = some (.int .i64 a3_1) ∧ w'.cell? ⟨gb216, 2, none⟩ = some (.int .i64 a3_2) ∧ w'.cell? ⟨gb227, 0, none⟩ = some (.string t221) ∧ w'.cell? ⟨gb227, 1, none⟩ = some (.int .i64 t222) ∧ w'.cell? ⟨gb227, 2, none⟩ = some (.int .u32 t223) ∧ w'.cell? ⟨gb227, 3, none⟩ = some (.int .u8 t224) ∧ w'.cell? ⟨gb227, 4, none⟩ = some (.int .i64 t225) ∧ w'.cell? ⟨gb234, 0, none⟩ = some (.string t228) ∧ w'.cell? ⟨gb234, 1, none⟩ = some (.int .i64 t229) ∧ w'.cell? ⟨gb234, 2, none⟩ = some (.int .u32 t230) ∧ w'.cell? ⟨gb234, 3, none⟩ = some (.int .u8 t231) ∧ w'.cell? ⟨gb234, 4, none⟩ = some (.int .i64 t232)) (ds := []) #[false, false, false, false, false, false, false, false, false, false, false, false, false, false, false, false, false, false] (by kernel_rfl) rfl rfl ⟨(blk_cell BK215.out 0).trans rfl, (blk_cell BK215.out 1).trans rfl, (blk_cell BK215.out 2).trans rfl, (blk_cell BK216.out 0).trans rfl, (blk_cell BK216.out 1).trans rfl, (blk_cell BK216.out 2).trans rfl, (blk_cell BK227.out 0).trans rfl, (blk_cell BK227.out 1).trans rfl, (blk_cell BK227.out 2).trans rfl, (blk_cell BK227.out 3).trans rfl, (blk_cell BK227.out 4).trans rfl, (blk_cell BK234.out 0).trans rfl, (blk_cell BK234.out 1).trans rfl, (blk_cell BK234.out 2).trans rfl, (blk_cell BK234.out 3).trans rfl, (blk_cell BK234.out 4).trans rfl⟩ (fun hHeld => ?_); refine with_tabW gambrelref22_Of.tab5 gambrelref22_Of.bits5 (fun HT_ HW_ => ?_)
     generalize w61.drew = w62 at BK215 BK216 BK217 BK227 BK234 HB hHeld ⊢
     refine pure_ (i := 3) (N := some 61) (v := ?_) (a' := ?_) #[false, false, false, true, false, false, false, false, false, false, false, false, false, false, false, false, false, false] rfl rfl (any_of HT_.out (by kernel_rfl)) (fun _ _ _ h => h) (Or.inl ⟨by rfl, ?_⟩) ?_ ?_
     rotate_left
     ·intro w'
      go_simp
      with_reducible rfl
     rotate_left
     ·simp only [Act.put, List.setIfInBounds_toArray, List.set_cons_zero, List.set_cons_succ, i64_w, i32_w]
      rfl
     refine pure_ (i := 5) (N := some 63) (v := ?_) (a' := ?_) #[false, false, false, true, false, true, false, false, false, false, false, false, false, false, false, false, false, false] rfl rfl (any_of HT_.out (by kernel_rfl)) (fun _ _ _ h => h) (Or.inl ⟨by rfl, ?_⟩) ?_ ?_
     rotate_left
     ·intro w'
      go_simp
      with_reducible rfl
     rotate_left
     ·simp only [Act.put, List.setIfInBounds_toArray, List.set_cons_zero, List.set_cons_succ, i64_w, i32_w]
      rfl
     refine take_ (i := 0) (N := some 58) (v := ?_) (a' := ?_) #[true, false, false, true, false, true, false, false, false, false, false, false, false, false, false, false, false, false] rfl rfl (take_ofW HT_.out HW_.out (by kernel_rfl)) (fun _ _ _ h => h) (Or.inl ⟨by rfl, ?_⟩) hHeld ?_ ?_
     rotate_left
     ·rintro w' ⟨s0, s1, s2, s3, s4, s5, s6, s7, s8, s9, s10, s11, s12, s13, s14, s15⟩
      go_simp
      with_reducible rfl
     rotate_left
     ·simp only [Act.put, List.setIfInBounds_toArray, List.set_cons_zero, List.set_cons_succ, i64_w, i32_w]
      rfl
     refine take_ (i := 1) (N := some 59) (v := ?_) (a' := ?_) #[true, true, false, true, false, true, false, false, false, false, false, false, false, false, false, false, false, false] rfl rfl (take_ofW HT_.out HW_.out (by kernel_rfl)) (fun _ _ _ h => h) (Or.inl ⟨by rfl, ?_⟩) hHeld ?_ ?_
     rotate_left
     ·rintro w' ⟨s0, s1, s2, s3, s4, s5, s6, s7, s8, s9, s10, s11, s12, s13, s14, s15⟩
      go_simp
      with_reducible rfl
     rotate_left
     ·simp only [Act.put, List.setIfInBounds_toArray, List.set_cons_zero, List.set_cons_succ, i64_w, i32_w]
      rfl
     refine pure_ (i := 2) (N := some 60) (v := ?_) (a' := ?_) #[true, true, true, true, false, true, false, false, false, false, false, false, false, false, false, false, false, false] rfl rfl (any_of HT_.out (by kernel_rfl)) (fun _ _ _ h => h) (Or.inl ⟨by rfl, ?_⟩) ?_ ?_
     rotate_left
     ·intro w'
      go_simp
      with_reducible rfl
     rotate_left
     ·simp only [Act.put, List.setIfInBounds_toArray, List.set_cons_zero, List.set_cons_succ, i64_w, i32_w]
      rfl
     refine take_ (i := 4) (N := some 62) (v := ?_) (a' := ?_) #[true, true, true, true, true, true, false, false, false, false, false, false, false, false, false, false, false, false] rfl rfl (take_ofW HT_.out HW_.out (by kernel_rfl)) (fun _ _ _ h => h) (Or.inl ⟨by rfl, ?_⟩) hHeld ?_ ?_
     rotate_left
     ·rintro w' ⟨s0, s1, s2, s3, s4, s5, s6, s7, s8, s9, s10, s11, s12, s13, s14, s15⟩
      go_simp
      with_reducible rfl
     rotate_left
     ·simp only [Act.put, List.setIfInBounds_toArray, List.set_cons_zero, List.set_cons_succ, i64_w, i32_w]
      rfl
     refine take_ (i := 6) (N := some 64) (v := ?_) (a' := ?_) #[true, true, true, true, true, true, true, false, false, false, false, false, false, false, false, false, false, false] rfl rfl (take_ofW HT_.out HW_.out (by kernel_rfl)) (fun _ _ _ h => h) (Or.inl ⟨by rfl, ?_⟩) hHeld ?_ ?_
     rotate_left
     ·rintro w' ⟨s0, s1, s2, s3, s4, s5, s6, s7, s8, s9, s10, s11, s12, s13, s14, s15⟩
      go_simp
      with_reducible rfl
     rotate_left
     ·simp only [Act.put, List.setIfInBounds_toArray, List.set_cons_zero, List.set_cons_succ, i64_w, i32_w]
      rfl
     refine pure_ (i := 7) (N := some 65) (v := ?_) (a' := ?_) #[true, true, true, true, true, true, true, true, false, false, false, false, false, false, false, false, false, false] rfl rfl (any_of HT_.out (by kernel_rfl)) (fun _ _ _ h => h) (Or.inl ⟨by rfl, ?_⟩) ?_ ?_
     rotate_left
     ·intro w'
      go_simp
      with_reducible rfl
     rotate_left
     ·simp only [Act.put, List.setIfInBounds_toArray, List.set_cons_zero, List.set_cons_succ, i64_w, i32_w]
      rfl
     refine pure_ (i := 8) (N := some 66) (v := ?_) (a' := ?_) #[true, true, true, true, true, true, true, true, true, false, false, false, false, false, false, false, false, false] rfl rfl (any_of HT_.out (by kernel_rfl)) (fun _ _ _ h => h) (Or.inl ⟨by rfl, ?_⟩) ?_ ?_
     rotate_left
     ·intro w'
      go_simp
      with_reducible rfl
     rotate_left
     ·simp only [Act.put, List.setIfInBounds_toArray, List.set_cons_zero, List.set_cons_succ, i64_w, i32_w]
      rfl
     refine pure_ (i := 9) (N := some 67) (v := ?_) (a' := ?_) #[true, true, true, true, true, true, true, true, true, true, false, false, false, false, false, false, false, false] rfl rfl (any_of HT_.out (by kernel_rfl)) (fun _ _ _ h => h) (Or.inl ⟨by rfl, ?_⟩) ?_ ?_
     rotate_left
     ·intro w'
      go_simp
      with_reducible rfl
     rotate_left
     ·simp only [Act.put, List.setIfInBounds_toArray, List.set_cons_zero, List.set_cons_succ, i64_w, i32_w]
      rfl
     refine pure_ (i := 11) (N := some 69) (v := ?_) (a' := ?_) #[true, true, true, true, true, true, true, true, true, true, false, true, false, false, false, false, false, false] rfl rfl (any_of HT_.out (by kernel_rfl)) (fun _ _ _ h => h) (Or.inl ⟨by rfl, ?_⟩) ?_ ?_
     rotate_left
     ·intro w'
      go_simp
      with_reducible rfl
     rotate_left
     ·simp only [Act.put, List.setIfInBounds_toArray, List.set_cons_zero, List.set_cons_succ, i64_w, i32_w]
      rfl
     refine take_ (i := 10) (N := some 68) (v := ?_) (a' := ?_) #[true, true, true, true, true, true, true, true, true, true, true, true, false, false, false, false, false, false] rfl rfl (take_ofW HT_.out HW_.out (by kernel_rfl)) (fun _ _ _ h => h) (Or.inl ⟨by rfl, ?_⟩) hHeld ?_ ?_
     rotate_left
     ·rintro w' ⟨s0, s1, s2, s3, s4, s5, s6, s7, s8, s9, s10, s11, s12, s13, s14, s15⟩
      go_simp
      with_reducible rfl
     rotate_left
     ·simp only [Act.put, List.setIfInBounds_toArray, List.set_cons_zero, List.set_cons_succ, i64_w, i32_w]
      rfl
     refine take_ (i := 12) (N := some 70) (v := ?_) (a' := ?_) #[true, true, true, true, true, true, true, true, true, true, true, true, true, false, false, false, false, false] rfl rfl (take_ofW HT_.out HW_.out (by kernel_rfl)) (fun _ _ _ h => h) (Or.inl ⟨by rfl, ?_⟩) hHeld ?_ ?_
     rotate_left
     ·rintro w' ⟨s0, s1, s2, s3, s4, s5, s6, s7, s8, s9, s10, s11, s12, s13, s14, s15⟩
      go_simp
      with_reducible rfl
     rotate_left
     ·simp only [Act.put, List.setIfInBounds_toArray, List.set_cons_zero, List.set_cons_succ, i64_w, i32_w]
      rfl
     refine pure_ (i := 13) (N := some 71) (v := ?_) (a' := ?_) #[true, true, true, true, true, true, true, true, true, true, true, true, true, true, false, false, false, false] rfl rfl (any_of HT_.out (by kernel_rfl)) (fun _ _ _ h => h) (Or.inl ⟨by rfl, ?_⟩) ?_ ?_
     rotate_left
     ·intro w'
      go_simp
      with_reducible rfl
     rotate_left
     ·simp only [Act.put, List.setIfInBounds_toArray, List.set_cons_zero, List.set_cons_succ, i64_w, i32_w]
      rfl
     refine pure_ (i := 14) (N := some 72) (v := ?_) (a' := ?_) #[true, true, true, true, true, true, true, true, true, true, true, true, true, true, true, false, false, false] rfl rfl (any_of HT_.out (by kernel_rfl)) (fun _ _ _ h => h) (Or.inl ⟨by rfl, ?_⟩) ?_ ?_
     rotate_left
     ·intro w'
      go_simp
      with_reducible rfl
     rotate_left
     ·simp only [Act.put, List.setIfInBounds_toArray, List.set_cons_zero, List.set_cons_succ, i64_w, i32_w]
      rfl
     refine pure_ (i := 15) (N := some 73) (v := ?_) (a' := ?_) #[true, true, true, true, true, true, true, true, true, true, true, true, true, true, true, true, false, false] rfl rfl (any_of HT_.out (by kernel_rfl)) (fun _ _ _ h => h) (Or.inl ⟨by rfl, ?_⟩) ?_ ?_
     rotate_left
     ·intro w'
      go_simp
      with_reducible rfl
     rotate_left
     ·simp only [Act.put, List.setIfInBounds_toArray, List.set_cons_zero, List.set_cons_succ, i64_w, i32_w]
      rfl
     refine one_ (i := 16) (N := some 14) #[true, true, true, true, true, true, true, true, true, true, true, true, true, true, true, true, true, false] rfl rfl (one_of HT_.out (by kernel_rfl)) (by decide) (fun K hK => ?_)
     refine box_step ?hg (N := 14) ?hd (cs := #[.bool false, .bool false, .slice none 0 0, .slice none 0 0]) (t := 34) ?hr ?_; (case hd => rfl); (case hg => rfl); (case hr => first | (go_simp; done) | (go_simp; rfl))
     intro gb235 hg w63 hbox hb
     have n0_ := Aside0.mk (blk_below (g := gb215) (o := .cells #[.int .i64 a1_0, .int .i64 a1_1, .int .i64 a1_2] 23 (0, 0)) (by (with_reducible repeat (first | refine blk_drewN ?_ _ | refine blk_drew ?_ | refine blk_alloc ?_ _)); exact BK215.out) hb)
     have n1_ := Aside0.mk (blk_below (g := gb216) (o := .cells #[.int .i64 a3_0, .int .i64 a3_1, .int .i64 a3_2] 23 (0, 0)) (by (with_reducible repeat (first | refine blk_drewN ?_ _ | refine blk_drew ?_ | refine blk_alloc ?_ _)); exact BK216.out) hb)
     have n2_ := Aside0.mk (blk_below (g := gb217) (o := .cells #[.bool false, .bool false, .slice none 0 0, .slice none 0 0] 34 (0, 0)) (by (with_reducible repeat (first | refine blk_drewN ?_ _ | refine blk_drew ?_ | refine blk_alloc ?_ _)); exact BK217.out) hb)
     have n3_ := Aside0.mk (blk_below (g := gb227) (o := .cells #[.string t221, .int .i64 t222, .int .u32 t223, .int .u8 t224, .int .i64 t225] 60 (0, 0)) (by (with_reducible repeat (first | refine blk_drewN ?_ _ | refine blk_drew ?_ | refine blk_alloc ?_ _)); exact BK227.out) hb)
     have n4_ := Aside0.mk (blk_below (g := gb234) (o := .cells #[.string t228, .int .i64 t229, .int .u32 t230, .int .u8 t231, .int .i64 t232] 60 (0, 0)) (by (with_reducible repeat (first | refine blk_drewN ?_ _ | refine blk_drew ?_ | refine blk_alloc ?_ _)); exact BK234.out) hb)
     have n5_ := Aside0.mk (below_step (by repeat (first | (with_reducible first | exact HB.out | apply below_alloc | apply pw_below_drewN | apply below_drew1 | refine below_set ?_ GE215.out | refine below_set ?_ GE216.out | refine below_set ?_ GE217.out | refine below_set ?_ GE227.out | refine below_set ?_ GE234.out) | exact HB.out)) hb)
     have n6_ := Aside0.mk (hbox)
     have n7_ := Aside0.mk ((by rw [hg]; exact (below_size (by repeat (first | (with_reducible first | exact HB.out | apply below_alloc | apply pw_below_drewN | apply below_drew1 | refine below_set ?_ GE215.out | refine below_set ?_ GE216.out | refine below_set ?_ GE217.out | refine below_set ?_ GE227.out | refine below_set ?_ GE234.out) | exact HB.out))) : w.heap.size ≤ gb235))
     have n8_ := Aside0.mk ((by rw [hg]; exact (below_size (by repeat (first | (with_reducible first | exact HB.out | apply below_alloc | apply pw_below_drewN | apply below_drew1 | refine below_set ?_ GE215.out | refine below_set ?_ GE216.out | refine below_set ?_ GE217.out | refine below_set ?_ GE227.out | refine below_set ?_ GE234.out) | exact HB.out))) : w.heap.size ≤ gb235))
     have n9_ := Aside0.mk ((by rw [hg]; exact Nat.ne_of_lt (blk_lt (g := gb215) (o := .cells #[.int .i64 a1_0, .int .i64 a1_1, .int .i64 a1_2] 23 (0, 0)) (by (with_reducible repeat (first | refine blk_drewN ?_ _ | refine blk_drew ?_ | refine blk_alloc ?_ _)); exact BK215.out)) : gb215 ≠ gb235))
     have n10_ := Aside0.mk ((by rw [hg]; exact Nat.ne_of_gt (blk_lt (g := gb215) (o := .cells #[.int .i64 a1_0, .int .i64 a1_1, .int .i64 a1_2] 23 (0, 0)) (by (with_reducible repeat (first | refine blk_drewN ?_ _ | refine blk_drew ?_ | refine blk_alloc ?_ _)); exact BK215.out)) : gb235 ≠ gb215))
     have n11_ := Aside0.mk ((by rw [hg]; exact Nat.ne_of_lt (blk_lt (g := gb216) (o := .cells #[.int .i64 a3_0, .int .i64 a3_1, .int .i64 a3_2] 23 (0, 0)) (by (with_reducible repeat (first | refine blk_drewN ?_ _ | refine blk_drew ?_ | refine blk_alloc ?_ _)); exact BK216.out)) : gb216 ≠ gb235))
     have n12_ := Aside0.mk ((by rw [hg]; exact Nat.ne_of_gt (blk_lt (g := gb216) (o := .cells #[.int .i64 a3_0, .int .i64 a3_1, .int .i64 a3_2] 23 (0, 0)) (by (with_reducible repeat (first | refine blk_drewN ?_ _ | refine blk_drew ?_ | refine blk_alloc ?_ _)); exact BK216.out)) : gb235 ≠ gb216))
     have n13_ := Aside0.mk ((by rw [hg]; exact Nat.ne_of_lt (blk_lt (g := gb217) (o := .cells #[.bool false, .bool false, .slice none 0 0, .slice none 0 0] 34 (0, 0)) (by (with_reducible repeat (first | refine blk_drewN ?_ _ | refine blk_drew ?_ | refine blk_alloc ?_ _)); exact BK217.out)) : gb217 ≠ gb235))
     have n14_ := Aside0.mk ((by rw [hg]; exact Nat.ne_of_gt (blk_lt (g := gb217) (o := .cells #[.bool false, .bool false, .slice none 0 0, .slice none 0 0] 34 (0, 0)) (by (with_reducible repeat (first | refine blk_drewN ?_ _ | refine blk_drew ?_ | refine blk_alloc ?_ _)); exact BK217.out)) : gb235 ≠ gb217))
     have n15_ := Aside0.mk ((by rw [hg]; exact Nat.ne_of_lt (blk_lt (g := gb227) (o := .cells #[.string t221, .int .i64 t222, .int .u32 t223, .int .u8 t224, .int .i64 t225] 60 (0, 0)) (by (with_reducible repeat (first | refine blk_drewN ?_ _ | refine blk_drew ?_ | refine blk_alloc ?_ _)); exact BK227.out)) : gb227 ≠ gb235))
     have n16_ := Aside0.mk ((by rw [hg]; exact Nat.ne_of_gt (blk_lt (g := gb227) (o := .cells #[.string t221, .int .i64 t222, .int .u32 t223, .int .u8 t224, .int .i64 t225] 60 (0, 0)) (by (with_reducible repeat (first | refine blk_drewN ?_ _ | refine blk_drew ?_ | refine blk_alloc ?_ _)); exact BK227.out)) : gb235 ≠ gb227))
     have n17_ := Aside0.mk ((by rw [hg]; exact Nat.ne_of_lt (blk_lt (g := gb234) (o := .cells #[.string t228, .int .i64 t229, .int .u32 t230, .int .u8 t231, .int .i64 t232] 60 (0, 0)) (by (with_reducible repeat (first | refine blk_drewN ?_ _ | refine blk_drew ?_ | refine blk_alloc ?_ _)); exact BK234.out)) : gb234 ≠ gb235))
     have n18_ := Aside0.mk ((by rw [hg]; exact Nat.ne_of_gt (blk_lt (g := gb234) (o := .cells #[.string t228, .int .i64 t229, .int .u32 t230, .int .u8 t231, .int .i64 t232] 60 (0, 0)) (by (with_reducible repeat (first | refine blk_drewN ?_ _ | refine blk_drew ?_ | refine blk_alloc ?_ _)); exact BK234.out)) : gb235 ≠ gb234))
     clear BK215
     clear BK216
     clear BK217
     clear BK227
     clear BK234
     clear HB
     have BK215 := n0_
     have BK216 := n1_
     have BK217 := n2_
     have BK227 := n3_
     have BK234 := n4_
     have HB := n5_
     have BK235 := n6_
     have GW235 := n7_
     have GE235 := n8_
     have NB215_235 := n9_
     have NB235_215 := n10_
     have NB216_235 := n11_
     have NB235_216 := n12_
     have NB217_235 := n13_
     have NB235_217 := n14_
     have NB227_235 := n15_
     have NB235_227 := n16_
     have NB234_235 := n17_
     have NB235_234 := n18_
     clear n0_ n1_ n2_ n3_ n4_ n5_ n6_ n7_ n8_ n9_ n10_ n11_ n12_ n13_ n14_ n15_ n16_ n17_ n18_
     clear hb hbox hg
     refine hK.out _ _ ⟨(blk_cell BK215.out 0).trans rfl, (blk_cell BK215.out 1).trans rfl, (blk_cell BK215.out 2).trans rfl, (blk_cell BK216.out 0).trans rfl, (blk_cell BK216.out 1).trans rfl, (blk_cell BK216.out 2).trans rfl, (blk_cell BK227.out 0).trans rfl, (blk_cell BK227.out 1).trans rfl, (blk_cell BK227.out 2).trans rfl, (blk_cell BK227.out 3).trans rfl, (blk_cell BK227.out 4).trans rfl, (blk_cell BK234.out 0).trans rfl, (blk_cell BK234.out 1).trans rfl, (blk_cell BK234.out 2).trans rfl, (blk_cell BK234.out 3).trans rfl, (blk_cell BK234.out 4).trans rfl⟩ (fun hHeld => ?_)
     clear hK K
     refine norm_ (a' := ?_) ?_ ?_
     rotate_left
     ·show Act.put _ (some 14) _ = _
      simp only [Act.put, List.setIfInBounds_toArray, List.set_cons_zero, List.set_cons_succ, i64_w, i32_w]
      rfl
     refine one_ (i := 17) (N := none) #[true, true, true, true, true, true, true, true, true, true, true, true, true, true, true, true, true, true] rfl rfl (one_of HT_.out (by kernel_rfl)) (by decide) (fun K hK => ?_)
     have hs64 : w63.cell? ⟨gb235, 0, none⟩ = some (.bool false) := (blk_cell BK235.out 0).trans rfl
     have hfs64 := blk_frozen BK235.out 0
     have hns64_0 := NB215_235.out
     have hns64_1 := NB216_235.out
     have hns64_2 := NB217_235.out
     have hns64_3 := NB227_235.out
     have hns64_4 := NB234_235.out
     have hms64_0 := NB235_215.out
     have hms64_1 := NB235_216.out
     have hms64_2 := NB235_217.out
     have hms64_3 := NB235_227.out
     have hms64_4 := NB235_234.out
     have hs65 : w63.cell? ⟨gb235, 1, none⟩ = some (.bool false) := (blk_cell BK235.out 1).trans rfl
     have hfs65 := blk_frozen BK235.out 1
     have hns65_0 := NB215_235.out
     have hns65_1 := NB216_235.out
     have hns65_2 := NB217_235.out
     have hns65_3 := NB227_235.out
     have hns65_4 := NB234_235.out
     have hms65_0 := NB235_215.out
     have hms65_1 := NB235_216.out
     have hms65_2 := NB235_217.out
     have hms65_3 := NB235_227.out
     have hms65_4 := NB235_234.out
     have hs66 : w63.cell? ⟨gb235, 2, none⟩ = some (.slice none 0 0) := (blk_cell BK235.out 2).trans rfl
     have hfs66 := blk_frozen BK235.out 2
     have hns66_0 := NB215_235.out
     have hns66_1 := NB216_235.out
     have hns66_2 := NB217_235.out
     have hns66_3 := NB227_235.out
     have hns66_4 := NB234_235.out
     have hms66_0 := NB235_215.out
     have hms66_1 := NB235_216.out
     have hms66_2 := NB235_217.out
     have hms66_3 := NB235_227.out
     have hms66_4 := NB235_234.out
     have hs67 : w63.cell? ⟨gb235, 3, none⟩ = some (.slice none 0 0) := (blk_cell BK235.out 3).trans rfl
     have hfs67 := blk_frozen BK235.out 3
     have hns67_0 := NB215_235.out
     have hns67_1 := NB216_235.out
     have hns67_2 := NB217_235.out
     have hns67_3 := NB227_235.out
     have hns67_4 := NB234_235.out
     have hms67_0 := NB235_215.out
     have hms67_1 := NB235_216.out
     have hms67_2 := NB235_217.out
     have hms67_3 := NB235_227.out
     have hms67_4 := NB235_234.out
     refine skip_ (w1 := ?_) (by rfl) rfl ?_ ?_
     rotate_left
     ·go_simp
      rfl
     refine hK.out _ _ ⟨((cell_far (p := ⟨gb235, _, none⟩) NB215_235.out _).trans (((cell_far (p := ⟨gb235, _, none⟩) NB215_235.out _).trans (((cell_far (p := ⟨gb235, _, none⟩) NB215_235.out _).trans (((cell_far (p := ⟨gb235, _, none⟩) NB215_235.out _).trans (hHeld.1)))))))), ((cell_far (p := ⟨gb235, _, none⟩) NB215_235.out _).trans (((cell_far (p := ⟨gb235, _, none⟩) NB215_235.out _).trans (((cell_far (p := ⟨gb235, _, none⟩) NB215_235.out _).trans (((cell_far (p := ⟨gb235, _, none⟩) NB215_235.out _).trans (hHeld.2.1)))))))), ((cell_far (p := ⟨gb235, _, none⟩) NB215_235.out _).trans (((cell_far (p := ⟨gb235, _, none⟩) NB215_235.out _).trans (((cell_far (p := ⟨gb235, _, none⟩) NB215_235.out _).trans (((cell_far (p := ⟨gb235, _, none⟩) NB215_235.out _).trans (hHeld.2.2.1)))))))), ((cell_far (p := ⟨gb235, _, none⟩) NB216_235.out _).trans (((cell_far (p := ⟨gb235, _, none⟩) NB216_235.out _).trans (((cell_far (p := ⟨gb235, _, none⟩) NB216_235.out _).trans (((cell_far (p := ⟨gb235, _, none⟩) NB216_235.out _).trans (hHeld.2.2.2.1)))))))), ((cell_far (p := ⟨gb235, _, none⟩) NB216_235.out _).trans (((cell_far (p := ⟨gb235, _, none⟩) NB216_235.out _).trans (((cell_far (p := ⟨gb235, _, none⟩) NB216_235.out _).trans (((cell_far (p := ⟨gb235, _, none⟩) NB216_235.out _).trans (hHeld.2.2.2.2.1)))))))), ((cell_far (p := ⟨gb235, _, none⟩) NB216_235.out _).trans (((cell_far (p := ⟨gb235, _, none⟩) NB216_235.out _).trans (((cell_far (p := ⟨gb235, _, none⟩) NB216_235.out _).trans (((cell_far (p := ⟨gb235, _, none⟩) NB216_235.out _).trans (hHeld.2.2.2.2.2.1)))))))), ((cell_far (p := ⟨gb235, _, none⟩) NB227_235.out _).trans (((cell_far (p := ⟨gb235, _, none⟩) NB227_235.out _).trans (((cell_far (p := ⟨gb235, _, none⟩) NB227_235.out _).trans (((cell_far (p := ⟨gb235, _, none⟩) NB227_235.out _).trans (hHeld.2.2.2.2.2.2.1)))))))), ((cell_far (p := ⟨gb235, _, none⟩) NB227_235.out _).trans (((cell_far (p := ⟨gb235, _, none⟩) NB227_235.out _).trans (((cell_far (p := ⟨gb235, _, none⟩) NB227_235.out _).trans (((cell_far (p := ⟨gb235, _, none⟩) NB227_235.out _).trans (hHeld.2.2.2.2.2.2.2.1)))))))), ((cell_far (p := ⟨gb235, _, none⟩) NB227_235.out _).trans (((cell_far (p := ⟨gb235, _, none⟩) NB227_235.out _).trans (((cell_far (p := ⟨gb235, _, none⟩) NB227_235.out _).trans (((cell_far (p := ⟨gb235, _, none⟩) NB227_235.out _).trans (hHeld.2.2.2.2.2.2.2.2.1)))))))), ((cell_far (p := ⟨gb235, _, none⟩) NB227_235.out _).trans (((cell_far (p := ⟨gb235, _, none⟩) NB227_235.out _).trans (((cell_far (p := ⟨gb235, _, none⟩) NB227_235.out _).trans (((cell_far (p := ⟨gb235, _, none⟩) NB227_235.out _).trans (hHeld.2.2.2.2.2.2.2.2.2.1)))))))), ((cell_far (p := ⟨gb235, _, none⟩) NB227_235.out _).trans (((cell_far (p := ⟨gb235, _, none⟩) NB227_235.out _).trans (((cell_far (p := ⟨gb235, _, none⟩) NB227_235.out _).trans (((cell_far (p := ⟨gb235, _, none⟩) NB227_235.out _).trans (hHeld.2.2.2.2.2.2.2.2.2.2.1)))))))), ((cell_far (p := ⟨gb235, _, none⟩) NB234_235.out _).trans (((cell_far (p := ⟨gb235, _, none⟩) NB234_235.out _).trans (((cell_far (p := ⟨gb235, _, none⟩) NB234_235.out _).trans (((cell_far (p := ⟨gb235, _, none⟩) NB234_235.out _).trans (hHeld.2.2.2.2.2.2.2.2.2.2.2.1)))))))), ((cell_far (p := ⟨gb235, _, none⟩) NB234_235.out _).trans (((cell_far (p := ⟨gb235, _, none⟩) NB234_235.out _).trans (((cell_far (p := ⟨gb235, _, none⟩) NB234_235.out _).trans (((cell_far (p := ⟨gb235, _, none⟩) NB234_235.out _).trans (hHeld.2.2.2.2.2.2.2.2.2.2.2.2.1)))))))), ((cell_far (p := ⟨gb235, _, none⟩) NB234_235.out _).trans (((cell_far (p := ⟨gb235, _, none⟩) NB234_235.out _).trans (((cell_far (p := ⟨gb235, _, none⟩) NB234_235.out _).trans (((cell_far (p := ⟨gb235, _, none⟩) NB234_235.out _).trans (hHeld.2.2.2.2.2.2.2.2.2.2.2.2.2.1)))))))), ((cell_far (p := ⟨gb235, _, none⟩) NB234_235.out _).trans (((cell_far (p := ⟨gb235, _, none⟩) NB234_235.out _).trans (((cell_far (p := ⟨gb235, _, none⟩) NB234_235.out _).trans (((cell_far (p := ⟨gb235, _, none⟩) NB234_235.out _).trans (hHeld.2.2.2.2.2.2.2.2.2.2.2.2.2.2.1)))))))), ((cell_far (p := ⟨gb235, _, none⟩) NB234_235.out _).trans (((cell_far (p := ⟨gb235, _, none⟩) NB234_235.out _).trans (((cell_far (p := ⟨gb235, _, none⟩) NB234_235.out _).trans (((cell_far (p := ⟨gb235, _, none⟩) NB234_235.out _).trans (hHeld.2.2.2.2.2.2.2.2.2.2.2.2.2.2.2))))))))⟩ (fun hHeld => ?_)
     clear hK K
     refine done_ (done_of HT_.out (by kernel_rfl)) ?_
     have hnb68 := NB215_235.out
     have hnc68 := NB235_215.out
     have hcz69_0 : w63.cell? ⟨gb215, 0, none⟩ = some (.int .i64 a1_0) := (blk_cell BK215.out 0).trans rfl
     have hcz69_1 : w63.cell? ⟨gb215, 1, none⟩ = some (.int .i64 a1_1) := (blk_cell BK215.out 1).trans rfl
     have hcz69_2 : w63.cell? ⟨gb215, 2, none⟩ = some (.int .i64 a1_2) := (blk_cell BK215.out 2).trans rfl
     have hfz69_0 := blk_frozen BK215.out 0
     have hfz69_1 := blk_frozen BK215.out 1
     have hfz69_2 := blk_frozen BK215.out 2
     try go_wp2_with (first | ((with_reducible refine gate_callee (f := 13) rfl ?_); refine goesL_ (some 77) rfl rfl Tryd.func13 (by kernel_rfl) rfl #[.string a0, .agg #[.int .i64 a1_0, .int .i64 a1_1, .int .i64 a1_2]] rfl (by (try simp only [List.map_toArray, List.map_cons, List.map_nil]); first | done | rfl | (simp only [List.length_drop, List.length_take]; rfl)) ?_; (with_reducible refine (gambrelref15_Set.calls kj4 a0 a1_0 a1_1 a1_2 t236 t239 _ A41.out).mono ?_); rintro e w70 ⟨v237, rfl, ho0, hb⟩; refine ⟨_, rfl, ?_⟩; have n0_ := Aside0.mk (Kd.R_lower ho0 (below_size (by repeat (first | (with_reducible first | exact HB.out | apply below_alloc | apply pw_below_drewN | apply below_drew1 | refine below_set ?_ GE215.out | refine below_set ?_ GE216.out | refine below_set ?_ GE217.out | refine below_set ?_ GE227.out | refine below_set ?_ GE234.out | refine below_set ?_ GE235.out) | exact HB.out)))); have n1_ := Aside0.mk (blk_below (g := gb215) (o := .cells #[.int .i64 a1_0, .int .i64 a1_1, .int .i64 a1_2] 23 (0, 0)) (by (with_reducible repeat (first | refine blk_drewN ?_ _ | refine blk_drew ?_ | refine blk_alloc ?_ _)); refine blk_far ?_ NB215_235.out _; (with_reducible repeat (first | refine blk_drewN ?_ _ | refine blk_drew ?_ | refine blk_alloc ?_ _)); refine blk_far ?_ NB215_235.out _; (with_reducible repeat (first | refine blk_drewN ?_ _ | refine blk_drew ?_ | refine blk_alloc ?_ _)); refine blk_far ?_ NB215_235.out _; (with_reducible repeat (first | refine blk_drewN ?_ _ | refine blk_drew ?_ | refine blk_alloc ?_ _)); refine blk_far ?_ NB215_235.out _; (with_reducible repeat (first | refine blk_drewN ?_ _ | refine blk_drew ?_ | refine blk_alloc ?_ _)); exact BK215.out) hb); have n2_ := Aside0.mk (blk_below (g := gb216) (o := .cells #[.int .i64 a3_0, .int .i64 a3_1, .int .i64 a3_2] 23 (0, 0)) (by (with_reducible repeat (first | refine blk_drewN ?_ _ | refine blk_drew ?_ | refine blk_alloc ?_ _)); refine blk_far ?_ NB216_235.out _; (with_reducible repeat (first | refine blk_drewN ?_ _ | refine blk_drew ?_ | refine blk_alloc ?_ _)); refine blk_far ?_ NB216_235.out _; (with_reducible repeat (first | refine blk_drewN ?_ _ | refine blk_drew ?_ | refine blk_alloc ?_ _)); refine blk_far ?_ NB216_235.out _; (with_reducible repeat (first | refine blk_drewN ?_ _ | refine blk_drew ?_ | refine blk_alloc ?_ _)); refine blk_far ?_ NB216_235.out _; (with_reducible repeat (first | refine blk_drewN ?_ _ | refine blk_drew ?_ | refine blk_alloc ?_ _)); exact BK216.out) hb); have n3_ := Aside0.mk (blk_below (g := gb217) (o := .cells #[.bool false, .bool false, .slice none 0 0, .slice none 0 0] 34 (0, 0)) (by (with_reducible repeat (first | refine blk_drewN ?_ _ | refine blk_drew ?_ | refine blk_alloc ?_ _)); refine blk_far ?_ NB217_235.out _; (with_reducible repeat (first | refine blk_drewN ?_ _ | refine blk_drew ?_ | refine blk_alloc ?_ _)); refine blk_far ?_ NB217_235.out _; (with_reducible repeat (first | refine blk_drewN ?_ _ | refine blk_drew ?_ | refine blk_alloc ?_ _)); refine blk_far ?_ NB217_235.out _; (with_reducible repeat (first | refine blk_drewN ?_ _ | refine blk_drew ?_ | refine blk_alloc ?_ _)); refine blk_far ?_ NB217_235.out _; (with_reducible repeat (first | refine blk_drewN ?_ _ | refine blk_drew ?_ | refine blk_alloc ?_ _)); exact BK217.out) hb); have n4_ := Aside0.mk (blk_below (g := gb227) (o := .cells #[.string t221, .int .i64 t222, .int .u32 t223, .int .u8 t224, .int .i64 t225] 60 (0, 0)) (by (with_reducible repeat (first | refine blk_drewN ?_ _ | refine blk_drew ?_ | refine blk_alloc ?_ _)); refine blk_far ?_ NB227_235.out _; (with_reducible repeat (first | refine blk_drewN ?_ _ | refine blk_drew ?_ | refine blk_alloc ?_ _)); refine blk_far ?_ NB227_235.out _; (with_reducible repeat (first | refine blk_drewN ?_ _ | refine blk_drew ?_ | refine blk_alloc ?_ _)); refine blk_far ?_ NB227_235.out _; (with_reducible repeat (first | refine blk_drewN ?_ _ | refine blk_drew ?_ | refine blk_alloc ?_ _)); refine blk_far ?_ NB227_235.out _; (with_reducible repeat (first | refine blk_drewN ?_ _ | refine blk_drew ?_ | refine blk_alloc ?_ _)); exact BK227.out) hb); have n5_ := Aside0.mk (blk_below (g := gb234) (o := .cells #[.string t228, .int .i64 t229, .int .u32 t230, .int .u8 t231, .int .i64 t232] 60 (0, 0)) (by (with_reducible repeat (first | refine blk_drewN ?_ _ | refine blk_drew ?_ | refine blk_alloc ?_ _)); refine blk_far ?_ NB234_235.out _; (with_reducible repeat (first | refine blk_drewN ?_ _ | refine blk_drew ?_ | refine blk_alloc ?_ _)); refine blk_far ?_ NB234_235.out _; (with_reducible repeat (first | refine blk_drewN ?_ _ | refine blk_drew ?_ | refine blk_alloc ?_ _)); refine blk_far ?_ NB234_235.out _; (with_reducible repeat (first | refine blk_drewN ?_ _ | refine blk_drew ?_ | refine blk_alloc ?_ _)); refine blk_far ?_ NB234_235.out _; (with_reducible repeat (first | refine blk_drewN ?_ _ | refine blk_drew ?_ | refine blk_alloc ?_ _)); exact BK234.out) hb); have n6_ := Aside0.mk (blk_below (g := gb235) (o := .cells #[.bool (eqT23 a1_0 a3_0 a1_1 a3_1 a1_2 a3_2), .bool (t224 == t231), .slice none 0 0, .slice none 0 0] 34 (0, 0)) (by (with_reducible repeat (first | refine blk_drewN ?_ _ | refine blk_drew ?_ | refine blk_alloc ?_ _)); refine blk_put (cs := #[.bool (eqT23 a1_0 a3_0 a1_1 a3_1 a1_2 a3_2), .bool (t224 == t231), .slice none 0 0, .slice none 0 0]) ?_ 3 _ rfl; (with_reducible repeat (first | refine blk_drewN ?_ _ | refine blk_drew ?_ | refine blk_alloc ?_ _)); refine blk_put (cs := #[.bool (eqT23 a1_0 a3_0 a1_1 a3_1 a1_2 a3_2), .bool (t224 == t231), .slice none 0 0, .slice none 0 0]) ?_ 2 _ rfl; (with_reducible repeat (first | refine blk_drewN ?_ _ | refine blk_drew ?_ | refine blk_alloc ?_ _)); refine blk_put (cs := #[.bool (eqT23 a1_0 a3_0 a1_1 a3_1 a1_2 a3_2), .bool false, .slice none 0 0, .slice none 0 0]) ?_ 1 _ rfl; (with_reducible repeat (first | refine blk_drewN ?_ _ | refine blk_drew ?_ | refine blk_alloc ?_ _)); refine blk_put (cs := #[.bool false, .bool false, .slice none 0 0, .slice none 0 0]) ?_ 0 _ rfl; (with_reducible repeat (first | refine blk_drewN ?_ _ | refine blk_drew ?_ | refine blk_alloc ?_ _)); exact BK235.out) hb); have n7_ := Aside0.mk (below_step (by repeat (first | (with_reducible first | exact HB.out | apply below_alloc | apply pw_below_drewN | apply below_drew1 | refine below_set ?_ GE215.out | refine below_set ?_ GE216.out | refine below_set ?_ GE217.out | refine below_set ?_ GE227.out | refine below_set ?_ GE234.out | refine below_set ?_ GE235.out) | exact HB.out)) hb); clear BK215; clear BK216; clear BK217; clear BK227; clear BK234; clear BK235; clear HB; have HO238 := n0_; have BK215 := n1_; have BK216 := n2_; have BK217 := n3_; have BK227 := n4_; have BK234 := n5_; have BK235 := n6_; have HB := n7_; clear n0_ n1_ n2_ n3_ n4_ n5_ n6_ n7_; (try clear hb); (try clear hb2); (try clear hk); (try clear hi); (try clear ho0); have hnb71 := NB216_235.out; have hnc71 := NB235_216.out; have hcz72_0 : w70.cell? ⟨gb216, 0, none⟩ = some (.int .i64 a3_0) := (blk_cell BK216.out 0).trans rfl; have hcz72_1 : w70.cell? ⟨gb216, 1, none⟩ = some (.int .i64 a3_1) := (blk_cell BK216.out 1).trans rfl; have hcz72_2 : w70.cell? ⟨gb216, 2, none⟩ = some (.int .i64 a3_2) := (blk_cell BK216.out 2).trans rfl; have hfz72_0 := blk_frozen BK216.out 0; have hfz72_1 := blk_frozen BK216.out 1; have hfz72_2 := blk_frozen BK216.out 2) | ((with_reducible refine gate_callee (f := 13) rfl ?_); refine goesL_ (some 83) rfl rfl Tryd.func13 (by kernel_rfl) rfl #[.string a0, .agg #[.int .i64 a3_0, .int .i64 a3_1, .int .i64 a3_2]] rfl (by (try simp only [List.map_toArray, List.map_cons, List.map_nil]); first | done | rfl | (simp only [List.length_drop, List.length_take]; rfl)) ?_; (with_reducible refine (gambrelref15_Set.calls kj4 a0 a3_0 a3_1 a3_2 t240 t243 _ A42.out).mono ?_); rintro e w73 ⟨v241, rfl, ho0, hb⟩; refine ⟨_, rfl, ?_⟩; have n0_ := Aside0.mk (Kd.R_elder' (by (with_reducible repeat (first | apply Kd.R_alloc | apply Kd.R_drewN | apply Kd.R_drew)); exact HO238.out) (Kd.R_base ho0) hb); have n1_ := Aside0.mk (Kd.R_lower (Kd.R_new' ho0 (Kd.R_lt (by (with_reducible repeat (first | apply Kd.R_alloc | apply Kd.R_drewN | apply Kd.R_drew)); exact HO238.out))) (below_size (by repeat (first | (with_reducible first | exact HB.out | apply below_alloc | apply pw_below_drewN | apply below_drew1 | refine below_set ?_ GE215.out | refine below_set ?_ GE216.out | refine below_set ?_ GE217.out | refine below_set ?_ GE227.out | refine below_set ?_ GE234.out | refine below_set ?_ GE235.out) | exact HB.out)))); have n2_ := Aside0.mk (blk_below (g := gb215) (o := .cells #[.int .i64 a1_0, .int .i64 a1_1, .int .i64 a1_2] 23 (0, 0)) (by (with_reducible repeat (first | refine blk_drewN ?_ _ | refine blk_drew ?_ | refine blk_alloc ?_ _)); exact BK215.out) hb); have n3_ := Aside0.mk (blk_below (g := gb216) (o := .cells #[.int .i64 a3_0, .int .i64 a3_1, .int .i64 a3_2] 23 (0, 0)) (by (with_reducible repeat (first | refine blk_drewN ?_ _ | refine blk_drew ?_ | refine blk_alloc ?_ _)); exact BK216.out) hb); have n4_ := Aside0.mk (blk_below (g := gb217) (o := .cells #[.bool false, .bool false, .slice none 0 0, .slice none 0 0] 34 (0, 0)) (by (with_reducible repeat (first | refine blk_drewN ?_ _ | refine blk_drew ?_ | refine blk_alloc ?_ _)); exact BK217.out) hb); have n5_ := Aside0.mk (blk_below (g := gb227) (o := .cells #[.string t221, .int .i64 t222, .int .u32 t223, .int .u8 t224, .int .i64 t225] 60 (0, 0)) (by (with_reducible repeat (first | refine blk_drewN ?_ _ | refine blk_drew ?_ | refine blk_alloc ?_ _)); exact BK227.out) hb); have n6_ := Aside0.mk (blk_below (g := gb234) (o := .cells #[.string t228, .int .i64 t229, .int .u32 t230, .int .u8 t231, .int .i64 t232] 60 (0, 0)) (by (with_reducible repeat (first | refine blk_drewN ?_ _ | refine blk_drew ?_ | refine blk_alloc ?_ _)); exact BK234.out) hb); have n7_ := Aside0.mk (blk_below (g := gb235) (o := .cells #[.bool (eqT23 a1_0 a3_0 a1_1 a3_1 a1_2 a3_2), .bool (t224 == t231), .slice none 0 0, .slice none 0 0] 34 (0, 0)) (by (with_reducible repeat (first | refine blk_drewN ?_ _ | refine blk_drew ?_ | refine blk_alloc ?_ _)); exact BK235.out) hb); have n8_ := Aside0.mk (below_step (by repeat (first | (with_reducible first | exact HB.out | apply below_alloc | apply pw_below_drewN | apply below_drew1 | refine below_set ?_ GE215.out | refine below_set ?_ GE216.out | refine below_set ?_ GE217.out | refine below_set ?_ GE227.out | refine below_set ?_ GE234.out | refine below_set ?_ GE235.out) | exact HB.out)) hb); clear HO238; clear BK215; clear BK216; clear BK217; clear BK227; clear BK234; clear BK235; clear HB; have HO238 := n0_; have HO242 := n1_; have BK215 := n2_; have BK216 := n3_; have BK217 := n4_; have BK227 := n5_; have BK234 := n6_; have BK235 := n7_; have HB := n8_; clear n0_ n1_ n2_ n3_ n4_ n5_ n6_ n7_ n8_; (try clear hb); (try clear hb2); (try clear hk); (try clear hi); (try clear ho0)))
     go_loopg [19] kj4 (fun kq v19 w' => ∃ (x19_2 : Int) (x236002_2 : List ByteArray) (u236002 : Value), v19 = .int .i64 x19_2 ∧ Aside0 (gambrelref22_Of.l0 kq l2 t236 t240 x19_2 (eqT23 a1_0 a3_0 a1_1 a3_1 a1_2 a3_2) (t224 == t231) x236002_2 = some (r1, r2, r3, r4, r5)) ∧ Aside0 (kq ≤ kj4) ∧ Aside0 (Kd.R Kd.string 9 w' w.heap.size (fun k_ => some k_ ≠ (v241 : Value).ownBlock ∧ some k_ ≠ (u236002 : Value).ownBlock) v237 t236) ∧ Aside0 (Kd.R Kd.string 9 w' w.heap.size (fun k_ => some k_ ≠ (v237 : Value).ownBlock ∧ some k_ ≠ (u236002 : Value).ownBlock) v241 t240) ∧ Aside0 (Kd.R Kd.string 9 w' w.heap.size (fun k_ => some k_ ≠ (v237 : Value).ownBlock ∧ some k_ ≠ (v241 : Value).ownBlock) u236002 x236002_2) ∧ Aside0 (w'.heap[gb215]? = some (.cells #[.int .i64 a1_0, .int .i64 a1_1, .int .i64 a1_2] 23 (0, 0))) ∧ Aside0 (w'.heap[gb216]? = some (.cells #[.int .i64 a3_0, .int .i64 a3_1, .int .i64 a3_2] 23 (0, 0))) ∧ Aside0 (w'.heap[gb217]? = some (.cells #[.bool false, .bool false, (.slice none 0 0), (.slice none 0 0)] 34 (0, 0))) ∧ Aside0 (w'.heap[gb227]? = some (.cells #[.string t221, .int .i64 t222, .int .u32 t223, .int .u8 t224, .int .i64 t225] 60 (0, 0))) ∧ Aside0 (w'.heap[gb234]? = some (.cells #[.string t228, .int .i64 t229, .int .u32 t230, .int .u8 t231, .int .i64 t232] 60 (0, 0))) ∧ Aside0 (w'.heap[gb235]? = some (.cells #[.bool (eqT23 a1_0 a3_0 a1_1 a3_1 a1_2 a3_2), .bool (t224 == t231), u236002, (.slice none 0 0)] 34 (0, 0))) ∧ Aside0 (Below w.heap.size w w'))
     case atStart => exact ⟨(0), (([] : List ByteArray)), (.slice none 0 0), (by first | rfl | (simp; done) | (simp [*]; done)), H', ⟨Nat.le_refl _⟩, ⟨by (with_reducible repeat (first | apply Kd.R_alloc | apply Kd.R_drewN | apply Kd.R_drew)); exact Kd.R_mono HO238.out (fun _ hk => ⟨hk.2, (by simp [Value.ownBlock])⟩)⟩, ⟨by (with_reducible repeat (first | apply Kd.R_alloc | apply Kd.R_drewN | apply Kd.R_drew)); exact Kd.R_mono HO242.out (fun _ hk => ⟨hk.2, (by simp [Value.ownBlock])⟩)⟩, ⟨by first | exact Kd.R_nil _ _ _ _ _ | exact Kd.N_nil _ _ _ _ _ | exact Kd.V_nil _ _ _ _ _ | exact Kd.Q_nil _ _ _ _ _ | exact Kd.S_nil _ _ _ _ _⟩, ⟨by (with_reducible repeat (first | refine blk_drewN ?_ _ | refine blk_drew ?_ | refine blk_alloc ?_ _)); exact BK215.out⟩, ⟨by (with_reducible repeat (first | refine blk_drewN ?_ _ | refine blk_drew ?_ | refine blk_alloc ?_ _)); exact BK216.out⟩, ⟨by (with_reducible repeat (first | refine blk_drewN ?_ _ | refine blk_drew ?_ | refine blk_alloc ?_ _)); exact BK217.out⟩, ⟨by (with_reducible repeat (first | refine blk_drewN ?_ _ | refine blk_drew ?_ | refine blk_alloc ?_ _)); exact BK227.out⟩, ⟨by (with_reducible repeat (first | refine blk_drewN ?_ _ | refine blk_drew ?_ | refine blk_alloc ?_ _)); exact BK234.out⟩, ⟨by (with_reducible repeat (first | refine blk_drewN ?_ _ | refine blk_drew ?_ | refine blk_alloc ?_ _)); exact BK235.out⟩, ⟨by repeat (first | (with_reducible first | exact HB.out | apply below_alloc | apply pw_below_drewN | apply below_drew1 | refine below_set ?_ GE215.out | refine below_set ?_ GE216.out | refine below_set ?_ GE217.out | refine below_set ?_ GE227.out | refine below_set ?_ GE234.out | refine below_set ?_ GE235.out) | exact HB.out)⟩⟩
     case round =>
      clear H'
      try clear c1
      try clear c2
      try clear p2
      try clear c3
      try clear c4
      try clear c5
      try clear c6
      try clear p6
      try clear c7
      try clear c9
      try clear c10
      try clear c12
      try clear c13
      try clear c14
      try clear c15
      try clear c16
      try clear c19
      try clear c22
      try clear c23
      try clear c24
      try clear c27
      try clear c30
      try clear c31
      try clear c34
      try clear c35
      try clear c36
      try clear c40
      try clear c40b0
      try clear c40b1
      try clear c43
      try clear c44
      try clear c48
      try clear c49
      try clear c50
      try clear c52
      try clear c56
      try clear c57
      try clear c58
      try clear c59
      try clear p64
      try clear c68
      try clear c71
      try clear hcz17_0
      try clear hcz17_1
      try clear hcz17_2
      try clear hcz20_0
      try clear hcz20_1
      try clear hcz20_2
      try clear hcz22_0
      try clear hcz22_1
      try clear hcz22_2
      try clear hcz25_0
      try clear hcz25_1
      try clear hcz25_2
      try clear hcz28_0
      try clear hcz28_1
      try clear hcz28_2
      try clear hcz32_0
      try clear hcz32_1
      try clear hcz32_2
      try clear hcz37_0
      try clear hcz37_1
      try clear hcz37_2
      try clear hcz37_3
      try clear hcz45_0
      try clear hcz45_1
      try clear hcz45_2
      try clear hcz51_0
      try clear hcz51_1
      try clear hcz51_2
      try clear hcz51_3
      try clear hcz51_4
      try clear hcz53_0
      try clear hcz53_1
      try clear hcz53_2
      try clear hcz60_0
      try clear hcz60_1
      try clear hcz60_2
      try clear hcz60_3
      try clear hcz60_4
      try clear hcz69_0
      try clear hcz69_1
      try clear hcz69_2
      try clear hcz72_0
      try clear hcz72_1
      try clear hcz72_2
      try clear hfz17_0
      try clear hfz17_1
      try clear hfz17_2
      try clear hfz20_0
      try clear hfz20_1
      try clear hfz20_2
      try clear hfz22_0
      try clear hfz22_1
      try clear hfz22_2
      try clear hfz25_0
      try clear hfz25_1
      try clear hfz25_2
      try clear hfz28_0
      try clear hfz28_1
      try clear hfz28_2
      try clear hfz32_0
      try clear hfz32_1
      try clear hfz32_2
      try clear hfz37_0
      try clear hfz37_1
      try clear hfz37_2
      try clear hfz37_3
      try clear hfz45_0
      try clear hfz45_1
      try clear hfz45_2
      try clear hfz51_0
      try clear hfz51_1
      try clear hfz51_2
      try clear hfz51_3
      try clear hfz51_4
      try clear hfz53_0
      try clear hfz53_1
      try clear hfz53_2
      try clear hfz60_0
      try clear hfz60_1
      try clear hfz60_2
      try clear hfz60_3
      try clear hfz60_4
      try clear hfz69_0
      try clear hfz69_1
      try clear hfz69_2
      try clear hfz72_0
      try clear hfz72_1
      try clear hfz72_2
      try clear p2
      try clear p6
      obtain ⟨x19_2, x236002_2, u236002, rfl, HA, HK2, HO_15, HO_17, HO_236002, BK215, BK216, BK217, BK227, BK234, BK235, HB⟩ := hrel
      cases gk with
      | zero => exact absurd HA.out (by simp [gambrelref22_Of.l0])
      | succ k2 =>
       have H := HA.out
       clear HA
       simp only [gambrelref22_Of.l0] at H
       by_cases c74 : x19_2 < (t240.length : Int)
       ·rw [if_pos c74] at H
        have c74b0 : decide (x19_2 < (t240.length : Int)) = true := decide_eq_true c74
        clear c74
        by_cases c75 : 0 ≤ x19_2
        ·rw [if_pos c75] at H
         have c75b0 : decide (0 ≤ x19_2) = true := decide_eq_true c75
         clear c75
         replace H := Option.bind_eq_some_iff.mp H
         obtain ⟨t245, A760, H⟩ := H
         replace H : (if t245 < 0 then (if x236002_2.length < 8796093022208 then (gambrelref22_Of.l0 k2 l2 t236 t240 (wrap64 (x19_2 + 1)) (eqT23 a1_0 a3_0 a1_1 a3_1 a1_2 a3_2) (t224 == t231) (x236002_2 ++ [rdOf ByteArray.empty t240 x19_2])) else (none)) else (if 0 ≤ t245 then (if t245 < (l2.length : Int) then (if (rd l2 t245) = 0 then (gambrelref22_Of.l0 k2 l2 t236 t240 (wrap64 (x19_2 + 1)) (eqT23 a1_0 a3_0 a1_1 a3_1 a1_2 a3_2) (t224 == t231) x236002_2) else (if x236002_2.length < 8796093022208 then (gambrelref22_Of.l0 k2 l2 t236 t240 (wrap64 (x19_2 + 1)) (eqT23 a1_0 a3_0 a1_1 a3_1 a1_2 a3_2) (t224 == t231) (x236002_2 ++ [rdOf ByteArray.empty t240 x19_2])) else (none))) else (none)) else (none))) = some (r1, r2, r3, r4, r5) := H
         have A76 := Aside0.mk A760
         clear A760
         by_cases c77 : t245 < 0
         ·rw [if_pos c77] at H
          have c77b0 : decide (t245 < 0) = true := decide_eq_true c77
          clear c77
          by_cases c78 : x236002_2.length < 8796093022208
          ·rw [if_pos c78] at H
           have LMc78 := Aside0.mk c78
           clear c78
           obtain ⟨y247, hy247⟩ : ∃ y_ : List ByteArray, y_ = (x236002_2 ++ [rdOf ByteArray.empty t240 x19_2]) := ⟨_, rfl⟩
           replace H : (gambrelref22_Of.l0 k2 l2 t236 t240 (wrap64 (x19_2 + 1)) (eqT23 a1_0 a3_0 a1_1 a3_1 a1_2 a3_2) (t224 == t231) y247) = some (r1, r2, r3, r4, r5) := by first | (rw [hy247]; with_reducible exact H) | (have H2_ := (Option.bind_some _ _).symm.trans H; rw [hy247]; with_reducible exact H2_) | (have H2_ := (Option.bind_some _ _).symm.trans H; with_reducible exact H2_) | with_reducible exact H | (rw [hy247]; exact H) | exact H
           have Ny247 := Aside0.mk hy247
           clear hy247
           have H' := Aside0.mk H
           clear H
           obtain ⟨Ao79, co79, eo79⟩ := Kd.R_slice HO_17.out
           subst eo79
           have p244 : 0 ≤ (x19_2 : Int) := of_decide_eq_true (by first | (with_reducible assumption) | assumption)
           have q244 : x19_2 < (t240.length : Int) := of_decide_eq_true (by first | (with_reducible assumption) | assumption)
           obtain ⟨ad244, e244, hx244_0⟩ := Kd.at_string (Kd.R_reads' HO_17.out).2.2 x19_2 p244 q244
           cases e244
           replace p244 := eq_true p244
           replace q244 := eq_true q244
           obtain ⟨Ao80, co80, eo80⟩ := Kd.R_slice HO_15.out
           subst eo80
           try go_wp2_with (first | ((with_reducible refine gate_callee (f := 25) rfl ?_); refine goesL_ (some 97) rfl rfl Tryd.func25 (by kernel_rfl) rfl #[.slice Ao80 t236.length co80, .string (rdOf ByteArray.empty t240 x19_2)] rfl (by (try simp only [List.map_toArray, List.map_cons, List.map_nil]); first | done | rfl | (simp only [List.length_drop, List.length_take]; rfl)) ?_; (with_reducible refine (gambrelref22_at.calls k2 _ _ t236 (rdOf ByteArray.empty t240 x19_2) t245 _ ?side1 ?side2 A76.out).mono ?_); (case side1 => repeat (first | exact (Kd.R_reads' HO_15.out).2.2 | (with_reducible refine Kd.C_alloc ?_ _) | (with_reducible refine Kd.C_drewN ?_ _) | (with_reducible refine Kd.C_drew ?_))); (case side2 => exact (Kd.R_reads' HO_15.out).2.1); rintro e w' ⟨rfl, ⟨nd, rfl⟩⟩; refine ⟨_, rfl, ?_⟩; (try (rw [drewN_self wr]; generalize hq_ : World.drewN wr _ = wr; have n0_ : Aside0 (Kd.R Kd.string 9 wr w.heap.size (fun k_ => some k_ ≠ (.slice (some ad244) t240.length co79 : Value).ownBlock ∧ some k_ ≠ (u236002 : Value).ownBlock) (.slice Ao80 t236.length co80) t236) := ⟨by rw [← hq_]; exact (by (with_reducible repeat (first | apply Kd.R_alloc | apply Kd.R_drewN | apply Kd.R_drew)); exact HO_15.out)⟩; have n1_ : Aside0 (Kd.R Kd.string 9 wr w.heap.size (fun k_ => some k_ ≠ (.slice Ao80 t236.length co80 : Value).ownBlock ∧ some k_ ≠ (u236002 : Value).ownBlock) (.slice (some ad244) t240.length co79) t240) := ⟨by rw [← hq_]; exact (by (with_reducible repeat (first | apply Kd.R_alloc | apply Kd.R_drewN | apply Kd.R_drew)); exact HO_17.out)⟩; have n2_ : Aside0 (Kd.R Kd.string 9 wr w.heap.size (fun k_ => some k_ ≠ (.slice Ao80 t236.length co80 : Value).ownBlock ∧ some k_ ≠ (.slice (some ad244) t240.length co79 : Value).ownBlock) u236002 x236002_2) := ⟨by rw [← hq_]; exact (by (with_reducible repeat (first | apply Kd.R_alloc | apply Kd.R_drewN | apply Kd.R_drew)); exact HO_236002.out)⟩; have n3_ : Aside0 (wr.heap[gb215]? = some (.cells #[.int .i64 a1_0, .int .i64 a1_1, .int .i64 a1_2] 23 (0, 0))) := ⟨by rw [← hq_]; exact (by (with_reducible repeat (first | refine blk_drewN ?_ _ | refine blk_drew ?_ | refine blk_alloc ?_ _)); exact BK215.out)⟩; have n4_ : Aside0 (wr.heap[gb216]? = some (.cells #[.int .i64 a3_0, .int .i64 a3_1, .int .i64 a3_2] 23 (0, 0))) := ⟨by rw [← hq_]; exact (by (with_reducible repeat (first | refine blk_drewN ?_ _ | refine blk_drew ?_ | refine blk_alloc ?_ _)); exact BK216.out)⟩; have n5_ : Aside0 (wr.heap[gb217]? = some (.cells #[.bool false, .bool false, .slice none 0 0, .slice none 0 0] 34 (0, 0))) := ⟨by rw [← hq_]; exact (by (with_reducible repeat (first | refine blk_drewN ?_ _ | refine blk_drew ?_ | refine blk_alloc ?_ _)); exact BK217.out)⟩; have n6_ : Aside0 (wr.heap[gb227]? = some (.cells #[.string t221, .int .i64 t222, .int .u32 t223, .int .u8 t224, .int .i64 t225] 60 (0, 0))) := ⟨by rw [← hq_]; exact (by (with_reducible repeat (first | refine blk_drewN ?_ _ | refine blk_drew ?_ | refine blk_alloc ?_ _)); exact BK227.out)⟩; have n7_ : Aside0 (wr.heap[gb234]? = some (.cells #[.string t228, .int .i64 t229, .int .u32 t230, .int .u8 t231, .int .i64 t232] 60 (0, 0))) := ⟨by rw [← hq_]; exact (by (with_reducible repeat (first | refine blk_drewN ?_ _ | refine blk_drew ?_ | refine blk_alloc ?_ _)); exact BK234.out)⟩; have n8_ : Aside0 (wr.heap[gb235]? = some (.cells #[.bool (eqT23 a1_0 a3_0 a1_1 a3_1 a1_2 a3_2), .bool (t224 == t231), u236002, .slice none 0 0] 34 (0, 0))) := ⟨by rw [← hq_]; exact (by (with_reducible repeat (first | refine blk_drewN ?_ _ | refine blk_drew ?_ | refine blk_alloc ?_ _)); exact BK235.out)⟩; have n9_ : Aside0 (Below w.heap.size w wr) := ⟨by rw [← hq_]; exact (by repeat (first | (with_reducible first | exact HB.out | apply below_alloc | apply pw_below_drewN | apply below_drew1 | refine below_set ?_ GE215.out | refine below_set ?_ GE216.out | refine below_set ?_ GE217.out | refine below_set ?_ GE227.out | refine below_set ?_ GE234.out | refine below_set ?_ GE235.out) | exact HB.out))⟩; clear HO_15 HO_17 HO_236002 BK215 BK216 BK217 BK227 BK234 BK235 HB hq_; have HO_15 := n0_; have HO_17 := n1_; have HO_236002 := n2_; have BK215 := n3_; have BK216 := n4_; have BK217 := n5_; have BK227 := n6_; have BK234 := n7_; have BK235 := n8_; have HB := n9_; clear n0_ n1_ n2_ n3_ n4_ n5_ n6_ n7_ n8_ n9_))))
           have n0_ := Aside0.mk (Kd.R_drew HO_15.out)
           have n1_ := Aside0.mk (Kd.R_drew HO_17.out)
           have n2_ := Aside0.mk (Kd.R_drew HO_236002.out)
           have n3_ := Aside0.mk (blk_drew BK215.out)
           have n4_ := Aside0.mk (blk_drew BK216.out)
           have n5_ := Aside0.mk (blk_drew BK217.out)
           have n6_ := Aside0.mk (blk_drew BK227.out)
           have n7_ := Aside0.mk (blk_drew BK234.out)
           have n8_ := Aside0.mk (blk_drew BK235.out)
           have n9_ := Aside0.mk (below_drew1 HB.out)
           clear HO_15
           clear HO_17
           clear HO_236002
           clear BK215
           clear BK216
           clear BK217
           clear BK227
           clear BK234
           clear BK235
           clear HB
           have HO_15 := n0_
           have HO_17 := n1_
           have HO_236002 := n2_
           have BK215 := n3_
           have BK216 := n4_
           have BK217 := n5_
           have BK227 := n6_
           have BK234 := n7_
           have BK235 := n8_
           have HB := n9_
           clear n0_ n1_ n2_ n3_ n4_ n5_ n6_ n7_ n8_ n9_
           have p246 : 0 ≤ (x19_2 : Int) := of_decide_eq_true (by first | (with_reducible assumption) | assumption)
           have q246 : x19_2 < (t240.length : Int) := of_decide_eq_true (by first | (with_reducible assumption) | assumption)
           obtain ⟨ad246, e246, hx246_0⟩ := Kd.at_string (Kd.R_reads' HO_17.out).2.2 x19_2 p246 q246
           obtain rfl : ad244 = ad246 := (by injection e246)
           replace p246 := eq_true p246
           replace q246 := eq_true q246
           refine start_ (n := 10) (S := fun w' => w'.cell? ⟨gb235, 0, none⟩ = some (.bool (eqT23 a1_0 a3_0 a1_1 a3_1 a1_2 a3_2)) ∧ w'.cell? ⟨gb235, 1, none⟩ = some (.bool (t224 == t231)) ∧ w'.cell? ⟨gb235, 2, none⟩ = some (u236002) ∧ w'.cell? ⟨gb235, 3, none⟩ = some (.slice none 0 0) ∧ w'.cell? (ad244.add (x19_2).toNat) = some (.string (rdOf ByteArray.empty t240 x19_2))) (ds := [7, 9]) #[false, false, false, false, false, false, false, false, false, false] (by kernel_rfl) rfl rfl ⟨(blk_cell BK235.out 0).trans rfl, (blk_cell BK235.out 1).trans rfl, (blk_cell BK235.out 2).trans rfl, (blk_cell BK235.out 3).trans rfl, hx246_0⟩ (fun hHeld => ?_); refine with_tabW gambrelref22_Of.tab13 gambrelref22_Of.bits13 (fun HT_ HW_ => ?_)
           generalize wr.drew = w81 at HO_15 HO_17 HO_236002 BK215 BK216 BK217 BK227 BK234 BK235 HB hx246_0 hHeld ⊢
           refine pure_ (i := 0) (N := some 107) (v := ?_) (a' := ?_) #[true, false, false, false, false, false, false, false, false, false] rfl rfl (any_of HT_.out (by kernel_rfl)) (fun _ _ _ h => h) (Or.inl ⟨by rfl, ?_⟩) ?_ ?_
           rotate_left
           ·intro w'
            go_simp
            with_reducible rfl
           rotate_left
           ·simp only [Act.put, List.setIfInBounds_toArray, List.set_cons_zero, List.set_cons_succ, i64_w, i32_w]
            rfl
           refine pure_ (i := 2) (N := some 109) (v := ?_) (a' := ?_) #[true, false, true, false, false, false, false, false, false, false] rfl rfl (any_of HT_.out (by kernel_rfl)) (fun _ _ _ h => h) (Or.inl ⟨by rfl, ?_⟩) ?_ ?_
           rotate_left
           ·intro w'
            go_simp
            with_reducible rfl
           rotate_left
           ·simp only [Act.put, List.setIfInBounds_toArray, List.set_cons_zero, List.set_cons_succ, i64_w, i32_w]
            rfl
           refine pure_ (i := 3) (N := some 110) (v := ?_) (a' := ?_) #[true, false, true, true, false, false, false, false, false, false] rfl rfl (any_of HT_.out (by kernel_rfl)) (fun _ _ _ h => h) (Or.inl ⟨by rfl, ?_⟩) ?_ ?_
           rotate_left
           ·intro w'
            go_simp
            with_reducible rfl
           rotate_left
           ·simp only [Act.put, List.setIfInBounds_toArray, List.set_cons_zero, List.set_cons_succ, i64_w, i32_w]
            rfl
           refine pure_ (i := 4) (N := some 111) (v := ?_) (a' := ?_) #[true, false, true, true, true, false, false, false, false, false] rfl rfl (any_of HT_.out (by kernel_rfl)) (fun _ _ _ h => h) (Or.inl ⟨by rfl, ?_⟩) ?_ ?_
           rotate_left
           ·intro w'
            go_simp
            with_reducible rfl
           rotate_left
           ·simp only [Act.put, List.setIfInBounds_toArray, List.set_cons_zero, List.set_cons_succ, i64_w, i32_w]
            rfl
           refine take_ (i := 1) (N := some 108) (v := ?_) (a' := ?_) #[true, true, true, true, true, false, false, false, false, false] rfl rfl (take_ofW HT_.out HW_.out (by kernel_rfl)) (fun _ _ _ h => h) (Or.inl ⟨by rfl, ?_⟩) hHeld ?_ ?_
           rotate_left
           ·rintro w' ⟨s0, s1, s2, s3, s4⟩
            go_simp
            with_reducible rfl
           rotate_left
           ·simp only [Act.put, List.setIfInBounds_toArray, List.set_cons_zero, List.set_cons_succ, i64_w, i32_w]
            rfl
           refine take_ (i := 5) (N := some 112) (v := ?_) (a' := ?_) #[true, true, true, true, true, true, false, false, false, false] rfl rfl (take_ofW HT_.out HW_.out (by kernel_rfl)) (fun _ _ _ h => h) (Or.inl ⟨by rfl, ?_⟩) hHeld ?_ ?_
           rotate_left
           ·rintro w' ⟨s0, s1, s2, s3, s4⟩
            go_simp
            with_reducible rfl
           rotate_left
           ·simp only [Act.put, List.setIfInBounds_toArray, List.set_cons_zero, List.set_cons_succ, i64_w, i32_w]
            rfl
           refine one_ (i := 6) (N := some 113) #[true, true, true, true, true, true, true, false, false, false] rfl rfl (one_of HT_.out (by kernel_rfl)) (by decide) (fun K hK => ?_)
           refine value_ (w1 := ?_) (v := ?_) (by rfl) rfl ?_ ?_
           rotate_left 2
           ·go_simp
            constructor
            ·rfl
            ·rfl
           refine hK.out _ _ ⟨(blk_cell (blk_alloc BK235.out _) 0).trans rfl, (blk_cell (blk_alloc BK235.out _) 1).trans rfl, (blk_cell (blk_alloc BK235.out _) 2).trans rfl, (blk_cell (blk_alloc BK235.out _) 3).trans rfl, (World.cell?_alloc_lt _ _ _ (World.block_lt_of_cell? _ _ (hHeld.2.2.2.2))).trans (hHeld.2.2.2.2)⟩ (fun hHeld => ?_)
           clear hK K
           refine norm_ (a' := ?_) ?_ ?_
           rotate_left
           ·show Act.put _ (some 113) _ = _
            simp only [Act.put, List.setIfInBounds_toArray, List.set_cons_zero, List.set_cons_succ, i64_w, i32_w]
            rfl
           refine last_ (i := 7) (N := some 114) #[true, true, true, true, true, true, true, true, false, false] rfl rfl (one_of HT_.out (by kernel_rfl)) (by decide) (fun K hK => ?_)
           refine Kd.R_append_step Kd.string (w0 := w) w.heap.size (by rfl) (.tmp 108) (.tmp 113) 28 9 (.string ⟨#[]⟩) 16 rfl Tryd.underlying28 info9 rfl (by decide) (by omega) u236002 x236002_2 (rdOf ByteArray.empty t240 x19_2) [.string (rdOf ByteArray.empty t240 x19_2)] (fun k_ => some k_ ≠ (.slice Ao80 t236.length co80 : Value).ownBlock ∧ some k_ ≠ (.slice (some ad244) t240.length co79 : Value).ownBlock) (fun _ => False) rfl rfl ?aP (fun _ hk => hk.elim) ?aF ?aO ?aB ?aS ?aL ?_
           (case aP => exact rfl)
           (case aB => exact (by repeat (first | (with_reducible first | exact HB.out | apply below_alloc | apply pw_below_drewN | apply below_drew1 | refine below_set ?_ GE215.out | refine below_set ?_ GE216.out | refine below_set ?_ GE217.out | refine below_set ?_ GE227.out | refine below_set ?_ GE234.out | refine below_set ?_ GE235.out) | exact HB.out)))
           (case aF => exact (fun k_ hk => ⟨Kd.fresh' (Kd.R_lt (by (with_reducible repeat (first | apply Kd.R_alloc | apply Kd.R_drewN | apply Kd.R_drew)); exact HO_15.out)) k_ hk, Kd.fresh' (Kd.R_lt (by (with_reducible repeat (first | apply Kd.R_alloc | apply Kd.R_drewN | apply Kd.R_drew)); exact HO_17.out)) k_ hk⟩))
           (case aO => exact (by (with_reducible repeat (first | apply Kd.R_alloc | apply Kd.R_drewN | apply Kd.R_drew)); exact HO_236002.out))
           (case aS => exact (below_size (by repeat (first | (with_reducible first | exact HB.out | apply below_alloc | apply pw_below_drewN | apply below_drew1 | refine below_set ?_ GE215.out | refine below_set ?_ GE216.out | refine below_set ?_ GE217.out | refine below_set ?_ GE227.out | refine below_set ?_ GE234.out | refine below_set ?_ GE235.out) | exact HB.out))))
           (case aL => have := LMc78.out; omega)
           intro v248 w82 ho hb hg hat
           rw [← Ny247.out] at ho
           have n0_ := Aside0.mk (Kd.R_after (ok := (fun k_ => some k_ ≠ (.slice (some ad244) t240.length co79 : Value).ownBlock)) (by (with_reducible repeat (first | apply Kd.R_alloc | apply Kd.R_drewN | apply Kd.R_drew)); exact HO_15.out) hg hat)
           have n1_ := Aside0.mk (Kd.R_after (ok := (fun k_ => some k_ ≠ (.slice Ao80 t236.length co80 : Value).ownBlock)) (by (with_reducible repeat (first | apply Kd.R_alloc | apply Kd.R_drewN | apply Kd.R_drew)); exact HO_17.out) hg hat)
           have n2_ := Aside0.mk (blk_grown (g := gb215) (o := .cells #[.int .i64 a1_0, .int .i64 a1_1, .int .i64 a1_2] 23 (0, 0)) (by (with_reducible repeat (first | refine blk_drewN ?_ _ | refine blk_drew ?_ | refine blk_alloc ?_ _)); exact BK215.out) hg (Kd.R_ne HO_236002.out BK215.out (by decide)))
           have n3_ := Aside0.mk (blk_grown (g := gb216) (o := .cells #[.int .i64 a3_0, .int .i64 a3_1, .int .i64 a3_2] 23 (0, 0)) (by (with_reducible repeat (first | refine blk_drewN ?_ _ | refine blk_drew ?_ | refine blk_alloc ?_ _)); exact BK216.out) hg (Kd.R_ne HO_236002.out BK216.out (by decide)))
           have n4_ := Aside0.mk (blk_grown (g := gb217) (o := .cells #[.bool false, .bool false, .slice none 0 0, .slice none 0 0] 34 (0, 0)) (by (with_reducible repeat (first | refine blk_drewN ?_ _ | refine blk_drew ?_ | refine blk_alloc ?_ _)); exact BK217.out) hg (Kd.R_ne HO_236002.out BK217.out (by decide)))
           have n5_ := Aside0.mk (blk_grown (g := gb227) (o := .cells #[.string t221, .int .i64 t222, .int .u32 t223, .int .u8 t224, .int .i64 t225] 60 (0, 0)) (by (with_reducible repeat (first | refine blk_drewN ?_ _ | refine blk_drew ?_ | refine blk_alloc ?_ _)); exact BK227.out) hg (Kd.R_ne HO_236002.out BK227.out (by decide)))
           have n6_ := Aside0.mk (blk_grown (g := gb234) (o := .cells #[.string t228, .int .i64 t229, .int .u32 t230, .int .u8 t231, .int .i64 t232] 60 (0, 0)) (by (with_reducible repeat (first | refine blk_drewN ?_ _ | refine blk_drew ?_ | refine blk_alloc ?_ _)); exact BK234.out) hg (Kd.R_ne HO_236002.out BK234.out (by decide)))
           have n7_ := Aside0.mk (blk_grown (g := gb235) (o := .cells #[.bool (eqT23 a1_0 a3_0 a1_1 a3_1 a1_2 a3_2), .bool (t224 == t231), u236002, .slice none 0 0] 34 (0, 0)) (by (with_reducible repeat (first | refine blk_drewN ?_ _ | refine blk_drew ?_ | refine blk_alloc ?_ _)); exact BK235.out) hg (Kd.R_ne HO_236002.out BK235.out (by decide)))
           have n8_ := Aside0.mk (hb)
           have n9_ := Aside0.mk (ho)
           clear HO_15
           clear HO_17
           clear BK215
           clear BK216
           clear BK217
           clear BK227
           clear BK234
           clear BK235
           clear HB
           clear HO_236002
           have HO_15 := n0_
           have HO_17 := n1_
           have BK215 := n2_
           have BK216 := n3_
           have BK217 := n4_
           have BK227 := n5_
           have BK234 := n6_
           have BK235 := n7_
           have HB := n8_
           have HO249 := n9_
           clear n0_ n1_ n2_ n3_ n4_ n5_ n6_ n7_ n8_ n9_
           clear ho hb hg hat
           obtain ⟨Ao83, co83, eo83⟩ := Kd.R_slice HO249.out
           (first | subst eo83 | (injection eo83 with f1_ f2_ f3_; have f4_ := f1_.symm; have f5_ := f3_.symm; clear f1_ f2_ f3_; subst f4_; subst f5_))
           refine hK.out _ _ ?_
           clear hK K
           refine norm_ (a' := ?_) ?_ ?_
           rotate_left
           ·show Act.put _ (some 114) _ = _
            simp only [Act.put, List.setIfInBounds_toArray, List.set_cons_zero, List.set_cons_succ, i64_w, i32_w]
            rfl
           refine pure_ (i := 8) (N := some 115) (v := ?_) (a' := ?_) #[true, true, true, true, true, true, true, true, true, false] rfl rfl (any_of HT_.out (by kernel_rfl)) (fun _ _ _ h => h) (Or.inl ⟨by rfl, ?_⟩) ?_ ?_
           rotate_left
           ·intro w'
            go_simp
            with_reducible rfl
           rotate_left
           ·simp only [Act.put, List.setIfInBounds_toArray, List.set_cons_zero, List.set_cons_succ, i64_w, i32_w]
            rfl
           refine last_ (i := 9) (N := none) #[true, true, true, true, true, true, true, true, true, true] rfl rfl (one_of HT_.out (by kernel_rfl)) (by decide) (fun K hK => ?_)
           have hs84 : w82.cell? ⟨gb235, 2, none⟩ = some (u236002) := (blk_cell BK235.out 2).trans rfl
           have hfs84 := blk_frozen BK235.out 2
           have hns84_0 := NB215_235.out
           have hns84_1 := NB216_235.out
           have hns84_2 := NB217_235.out
           have hns84_3 := NB227_235.out
           have hns84_4 := NB234_235.out
           have hms84_0 := NB235_215.out
           have hms84_1 := NB235_216.out
           have hms84_2 := NB235_217.out
           have hms84_3 := NB235_227.out
           have hms84_4 := NB235_234.out
           refine skip_ (w1 := ?_) (by rfl) rfl ?_ ?_
           rotate_left
           ·go_simp
            rfl
           refine hK.out _ _ ?_
           clear hK K
           refine done_ (done_of HT_.out (by kernel_rfl)) ?_
           try go_wp2
           go_roundg k2
           case measure => have := HJ4.out; have := HK2.out; omega
           case rel => exact ⟨(wrap64 (x19_2 + 1)), (y247), (.slice Ao83 y247.length co83), (by first | rfl | (simp; done) | (simp [*]; done)), H', ⟨by have := HJ4.out; have := HK2.out; omega⟩, ⟨by (with_reducible repeat (first | apply Kd.R_alloc | apply Kd.R_drewN | apply Kd.R_drew)); exact Kd.R_mono (Kd.R_far (p := ⟨gb235, 2, none⟩) (Kd.R_types HO_15.out BK235.out (by decide)) (fun _ hk => hk.2) (.slice Ao83 y247.length co83)) (fun _ hk => ⟨hk.1.1, hk.1.2⟩)⟩, ⟨by (with_reducible repeat (first | apply Kd.R_alloc | apply Kd.R_drewN | apply Kd.R_drew)); exact Kd.R_mono (Kd.R_far (p := ⟨gb235, 2, none⟩) (Kd.R_types HO_17.out BK235.out (by decide)) (fun _ hk => hk.2) (.slice Ao83 y247.length co83)) (fun _ hk => ⟨hk.1.1, hk.1.2⟩)⟩, ⟨by (with_reducible repeat (first | apply Kd.R_alloc | apply Kd.R_drewN | apply Kd.R_drew)); exact Kd.R_mono (Kd.R_far (p := ⟨gb235, 2, none⟩) (Kd.R_types HO249.out BK235.out (by decide)) (fun _ hk => hk.2) (.slice Ao83 y247.length co83)) (fun _ hk => ⟨hk.1.1, hk.1.2⟩)⟩, ⟨by (with_reducible repeat (first | refine blk_drewN ?_ _ | refine blk_drew ?_ | refine blk_alloc ?_ _)); refine blk_far ?_ NB215_235.out _; (with_reducible repeat (first | refine blk_drewN ?_ _ | refine blk_drew ?_ | refine blk_alloc ?_ _)); exact BK215.out⟩, ⟨by (with_reducible repeat (first | refine blk_drewN ?_ _ | refine blk_drew ?_ | refine blk_alloc ?_ _)); refine blk_far ?_ NB216_235.out _; (with_reducible repeat (first | refine blk_drewN ?_ _ | refine blk_drew ?_ | refine blk_alloc ?_ _)); exact BK216.out⟩, ⟨by (with_reducible repeat (first | refine blk_drewN ?_ _ | refine blk_drew ?_ | refine blk_alloc ?_ _)); refine blk_far ?_ NB217_235.out _; (with_reducible repeat (first | refine blk_drewN ?_ _ | refine blk_drew ?_ | refine blk_alloc ?_ _)); exact BK217.out⟩, ⟨by (with_reducible repeat (first | refine blk_drewN ?_ _ | refine blk_drew ?_ | refine blk_alloc ?_ _)); refine blk_far ?_ NB227_235.out _; (with_reducible repeat (first | refine blk_drewN ?_ _ | refine blk_drew ?_ | refine blk_alloc ?_ _)); exact BK227.out⟩, ⟨by (with_reducible repeat (first | refine blk_drewN ?_ _ | refine blk_drew ?_ | refine blk_alloc ?_ _)); refine blk_far ?_ NB234_235.out _; (with_reducible repeat (first | refine blk_drewN ?_ _ | refine blk_drew ?_ | refine blk_alloc ?_ _)); exact BK234.out⟩, ⟨by (with_reducible repeat (first | refine blk_drewN ?_ _ | refine blk_drew ?_ | refine blk_alloc ?_ _)); refine blk_put (cs := #[.bool (eqT23 a1_0 a3_0 a1_1 a3_1 a1_2 a3_2), .bool (t224 == t231), u236002, .slice none 0 0]) ?_ 2 _ rfl; (with_reducible repeat (first | refine blk_drewN ?_ _ | refine blk_drew ?_ | refine blk_alloc ?_ _)); exact BK235.out⟩, ⟨by repeat (first | (with_reducible first | exact HB.out | apply below_alloc | apply pw_below_drewN | apply below_drew1 | refine below_set ?_ GE215.out | refine below_set ?_ GE216.out | refine below_set ?_ GE217.out | refine below_set ?_ GE227.out | refine below_set ?_ GE234.out | refine below_set ?_ GE235.out) | exact HB.out)⟩⟩
          ·rw [if_neg c78] at H
           exact absurd H (by simp)
         ·rw [if_neg c77] at H
          have c77b0 : decide (t245 < 0) = false := decide_eq_false c77
          clear c77
          by_cases c85 : 0 ≤ t245
          ·rw [if_pos c85] at H
           have c85b0 : decide (0 ≤ t245) = true := decide_eq_true c85
           clear c85
           by_cases c86 : t245 < (l2.length : Int)
           ·rw [if_pos c86] at H
            have c86b0 : decide (t245 < (l2.length : Int)) = true := decide_eq_true c86
            clear c86
            by_cases c87 : (rd l2 t245) = 0
            ·rw [if_pos c87] at H
             have c87b0 : ((rd l2 t245) == 0) = true := beq_iff_eq.mpr c87
             have c87b1 : ((rd l2 t245) != 0) = false := bne_eq_false_iff_eq.mpr c87
             clear c87
             have H' := Aside0.mk H
             clear H
             obtain ⟨Ao88, co88, eo88⟩ := Kd.R_slice HO_17.out
             subst eo88
             have p244 : 0 ≤ (x19_2 : Int) := of_decide_eq_true (by first | (with_reducible assumption) | assumption)
             have q244 : x19_2 < (t240.length : Int) := of_decide_eq_true (by first | (with_reducible assumption) | assumption)
             obtain ⟨ad244, e244, hx244_0⟩ := Kd.at_string (Kd.R_reads' HO_17.out).2.2 x19_2 p244 q244
             cases e244
             replace p244 := eq_true p244
             replace q244 := eq_true q244
             obtain ⟨Ao89, co89, eo89⟩ := Kd.R_slice HO_15.out
             subst eo89
             go_wp2_with (first | ((with_reducible refine gate_callee (f := 25) rfl ?_); refine goesL_ (some 97) rfl rfl Tryd.func25 (by kernel_rfl) rfl #[.slice Ao89 t236.length co89, .string (rdOf ByteArray.empty t240 x19_2)] rfl (by (try simp only [List.map_toArray, List.map_cons, List.map_nil]); first | done | rfl | (simp only [List.length_drop, List.length_take]; rfl)) ?_; (with_reducible refine (gambrelref22_at.calls k2 _ _ t236 (rdOf ByteArray.empty t240 x19_2) t245 _ ?side1 ?side2 A76.out).mono ?_); (case side1 => repeat (first | exact (Kd.R_reads' HO_15.out).2.2 | (with_reducible refine Kd.C_alloc ?_ _) | (with_reducible refine Kd.C_drewN ?_ _) | (with_reducible refine Kd.C_drew ?_))); (case side2 => exact (Kd.R_reads' HO_15.out).2.1); rintro e w' ⟨rfl, ⟨nd, rfl⟩⟩; refine ⟨_, rfl, ?_⟩; have p250 : 0 ≤ (t245 : Int) := of_decide_eq_true (by first | (with_reducible assumption) | assumption); have q250 : t245 < (l2.length : Int) := of_decide_eq_true (by first | (with_reducible assumption) | assumption); obtain ⟨ad250, e250, hx250_0⟩ := Kd.at_int HR2.out t245 p250 q250; cases e250; replace hx250_0 := (HB.out.cell (World.block_lt_of_cell? w _ hx250_0)).trans hx250_0; replace p250 := eq_true p250; replace q250 := eq_true q250))
             go_roundg k2
             case measure => have := HJ4.out; have := HK2.out; omega
             case rel => exact ⟨(wrap64 (x19_2 + 1)), (x236002_2), (u236002), (by first | rfl | (simp; done) | (simp [*]; done)), H', ⟨by have := HJ4.out; have := HK2.out; omega⟩, ⟨by (with_reducible repeat (first | apply Kd.R_alloc | apply Kd.R_drewN | apply Kd.R_drew)); exact HO_15.out⟩, ⟨by (with_reducible repeat (first | apply Kd.R_alloc | apply Kd.R_drewN | apply Kd.R_drew)); exact HO_17.out⟩, ⟨by (with_reducible repeat (first | apply Kd.R_alloc | apply Kd.R_drewN | apply Kd.R_drew)); exact HO_236002.out⟩, ⟨by (with_reducible repeat (first | refine blk_drewN ?_ _ | refine blk_drew ?_ | refine blk_alloc ?_ _)); exact BK215.out⟩, ⟨by (with_reducible repeat (first | refine blk_drewN ?_ _ | refine blk_drew ?_ | refine blk_alloc ?_ _)); exact BK216.out⟩, ⟨by (with_reducible repeat (first | refine blk_drewN ?_ _ | refine blk_drew ?_ | refine blk_alloc ?_ _)); exact BK217.out⟩, ⟨by (with_reducible repeat (first | refine blk_drewN ?_ _ | refine blk_drew ?_ | refine blk_alloc ?_ _)); exact BK227.out⟩, ⟨by (with_reducible repeat (first | refine blk_drewN ?_ _ | refine blk_drew ?_ | refine blk_alloc ?_ _)); exact BK234.out⟩, ⟨by (with_reducible repeat (first | refine blk_drewN ?_ _ | refine blk_drew ?_ | refine blk_alloc ?_ _)); exact BK235.out⟩, ⟨by repeat (first | (with_reducible first | exact HB.out | apply below_alloc | apply pw_below_drewN | apply below_drew1 | refine below_set ?_ GE215.out | refine below_set ?_ GE216.out | refine below_set ?_ GE217.out | refine below_set ?_ GE227.out | refine below_set ?_ GE234.out | refine below_set ?_ GE235.out) | exact HB.out)⟩⟩
            ·rw [if_neg c87] at H
             have c87b0 : ((rd l2 t245) == 0) = false := beq_eq_false_iff_ne.mpr c87
             have c87b1 : ((rd l2 t245) != 0) = true := bne_iff_ne.mpr c87
             by_cases c90 : x236002_2.length < 8796093022208
             ·rw [if_pos c90] at H
              have LMc90 := Aside0.mk c90
              clear c90
              obtain ⟨y252, hy252⟩ : ∃ y_ : List ByteArray, y_ = (x236002_2 ++ [rdOf ByteArray.empty t240 x19_2]) := ⟨_, rfl⟩
              replace H : (gambrelref22_Of.l0 k2 l2 t236 t240 (wrap64 (x19_2 + 1)) (eqT23 a1_0 a3_0 a1_1 a3_1 a1_2 a3_2) (t224 == t231) y252) = some (r1, r2, r3, r4, r5) := by first | (rw [hy252]; with_reducible exact H) | (have H2_ := (Option.bind_some _ _).symm.trans H; rw [hy252]; with_reducible exact H2_) | (have H2_ := (Option.bind_some _ _).symm.trans H; with_reducible exact H2_) | with_reducible exact H | (rw [hy252]; exact H) | exact H
              have Ny252 := Aside0.mk hy252
              clear hy252
              have H' := Aside0.mk H
              clear H
              obtain ⟨Ao91, co91, eo91⟩ := Kd.R_slice HO_17.out
              subst eo91
              have p244 : 0 ≤ (x19_2 : Int) := of_decide_eq_true (by first | (with_reducible assumption) | assumption)
              have q244 : x19_2 < (t240.length : Int) := of_decide_eq_true (by first | (with_reducible assumption) | assumption)
              obtain ⟨ad244, e244, hx244_0⟩ := Kd.at_string (Kd.R_reads' HO_17.out).2.2 x19_2 p244 q244
              cases e244
              replace p244 := eq_true p244
              replace q244 := eq_true q244
              obtain ⟨Ao92, co92, eo92⟩ := Kd.R_slice HO_15.out
              subst eo92
              try go_wp2_with (first | ((with_reducible refine gate_callee (f := 25) rfl ?_); refine goesL_ (some 97) rfl rfl Tryd.func25 (by kernel_rfl) rfl #[.slice Ao92 t236.length co92, .string (rdOf ByteArray.empty t240 x19_2)] rfl (by (try simp only [List.map_toArray, List.map_cons, List.map_nil]); first | done | rfl | (simp only [List.length_drop, List.length_take]; rfl)) ?_; (with_reducible refine (gambrelref22_at.calls k2 _ _ t236 (rdOf ByteArray.empty t240 x19_2) t245 _ ?side1 ?side2 A76.out).mono ?_); (case side1 => repeat (first | exact (Kd.R_reads' HO_15.out).2.2 | (with_reducible refine Kd.C_alloc ?_ _) | (with_reducible refine Kd.C_drewN ?_ _) | (with_reducible refine Kd.C_drew ?_))); (case side2 => exact (Kd.R_reads' HO_15.out).2.1); rintro e w' ⟨rfl, ⟨nd, rfl⟩⟩; refine ⟨_, rfl, ?_⟩; (try (rw [drewN_self wr]; generalize hq_ : World.drewN wr _ = wr; have n0_ : Aside0 (Kd.R Kd.string 9 wr w.heap.size (fun k_ => some k_ ≠ (.slice (some ad244) t240.length co91 : Value).ownBlock ∧ some k_ ≠ (u236002 : Value).ownBlock) (.slice Ao92 t236.length co92) t236) := ⟨by rw [← hq_]; exact (by (with_reducible repeat (first | apply Kd.R_alloc | apply Kd.R_drewN | apply Kd.R_drew)); exact HO_15.out)⟩; have n1_ : Aside0 (Kd.R Kd.string 9 wr w.heap.size (fun k_ => some k_ ≠ (.slice Ao92 t236.length co92 : Value).ownBlock ∧ some k_ ≠ (u236002 : Value).ownBlock) (.slice (some ad244) t240.length co91) t240) := ⟨by rw [← hq_]; exact (by (with_reducible repeat (first | apply Kd.R_alloc | apply Kd.R_drewN | apply Kd.R_drew)); exact HO_17.out)⟩; have n2_ : Aside0 (Kd.R Kd.string 9 wr w.heap.size (fun k_ => some k_ ≠ (.slice Ao92 t236.length co92 : Value).ownBlock ∧ some k_ ≠ (.slice (some ad244) t240.length co91 : Value).ownBlock) u236002 x236002_2) := ⟨by rw [← hq_]; exact (by (with_reducible repeat (first | apply Kd.R_alloc | apply Kd.R_drewN | apply Kd.R_drew)); exact HO_236002.out)⟩; have n3_ : Aside0 (wr.heap[gb215]? = some (.cells #[.int .i64 a1_0, .int .i64 a1_1, .int .i64 a1_2] 23 (0, 0))) := ⟨by rw [← hq_]; exact (by (with_reducible repeat (first | refine blk_drewN ?_ _ | refine blk_drew ?_ | refine blk_alloc ?_ _)); exact BK215.out)⟩; have n4_ : Aside0 (wr.heap[gb216]? = some (.cells #[.int .i64 a3_0, .int .i64 a3_1, .int .i64 a3_2] 23 (0, 0))) := ⟨by rw [← hq_]; exact (by (with_reducible repeat (first | refine blk_drewN ?_ _ | refine blk_drew ?_ | refine blk_alloc ?_ _)); exact BK216.out)⟩; have n5_ : Aside0 (wr.heap[gb217]? = some (.cells #[.bool false, .bool false, .slice none 0 0, .slice none 0 0] 34 (0, 0))) := ⟨by rw [← hq_]; exact (by (with_reducible repeat (first | refine blk_drewN ?_ _ | refine blk_drew ?_ | refine blk_alloc ?_ _)); exact BK217.out)⟩; have n6_ : Aside0 (wr.heap[gb227]? = some (.cells #[.string t221, .int .i64 t222, .int .u32 t223, .int .u8 t224, .int .i64 t225] 60 (0, 0))) := ⟨by rw [← hq_]; exact (by (with_reducible repeat (first | refine blk_drewN ?_ _ | refine blk_drew ?_ | refine blk_alloc ?_ _)); exact BK227.out)⟩; have n7_ : Aside0 (wr.heap[gb234]? = some (.cells #[.string t228, .int .i64 t229, .int .u32 t230, .int .u8 t231, .int .i64 t232] 60 (0, 0))) := ⟨by rw [← hq_]; exact (by (with_reducible repeat (first | refine blk_drewN ?_ _ | refine blk_drew ?_ | refine blk_alloc ?_ _)); exact BK234.out)⟩; have n8_ : Aside0 (wr.heap[gb235]? = some (.cells #[.bool (eqT23 a1_0 a3_0 a1_1 a3_1 a1_2 a3_2), .bool (t224 == t231), u236002, .slice none 0 0] 34 (0, 0))) := ⟨by rw [← hq_]; exact (by (with_reducible repeat (first | refine blk_drewN ?_ _ | refine blk_drew ?_ | refine blk_alloc ?_ _)); exact BK235.out)⟩; have n9_ : Aside0 (Below w.heap.size w wr) := ⟨by rw [← hq_]; exact (by repeat (first | (with_reducible first | exact HB.out | apply below_alloc | apply pw_below_drewN | apply below_drew1 | refine below_set ?_ GE215.out | refine below_set ?_ GE216.out | refine below_set ?_ GE217.out | refine below_set ?_ GE227.out | refine below_set ?_ GE234.out | refine below_set ?_ GE235.out) | exact HB.out))⟩; clear HO_15 HO_17 HO_236002 BK215 BK216 BK217 BK227 BK234 BK235 HB hq_; have HO_15 := n0_; have HO_17 := n1_; have HO_236002 := n2_; have BK215 := n3_; have BK216 := n4_; have BK217 := n5_; have BK227 := n6_; have BK234 := n7_; have BK235 := n8_; have HB := n9_; clear n0_ n1_ n2_ n3_ n4_ n5_ n6_ n7_ n8_ n9_)); have p250 : 0 ≤ (t245 : Int) := of_decide_eq_true (by first | (with_reducible assumption) | assumption); have q250 : t245 < (l2.length : Int) := of_decide_eq_true (by first | (with_reducible assumption) | assumption); obtain ⟨ad250, e250, hx250_0⟩ := Kd.at_int HR2.out t245 p250 q250; cases e250; replace hx250_0 := (HB.out.cell (World.block_lt_of_cell? w _ hx250_0)).trans hx250_0; replace p250 := eq_true p250; replace q250 := eq_true q250))
              have n0_ := Aside0.mk (Kd.R_drew HO_15.out)
              have n1_ := Aside0.mk (Kd.R_drew HO_17.out)
              have n2_ := Aside0.mk (Kd.R_drew HO_236002.out)
              have n3_ := Aside0.mk (blk_drew BK215.out)
              have n4_ := Aside0.mk (blk_drew BK216.out)
              have n5_ := Aside0.mk (blk_drew BK217.out)
              have n6_ := Aside0.mk (blk_drew BK227.out)
              have n7_ := Aside0.mk (blk_drew BK234.out)
              have n8_ := Aside0.mk (blk_drew BK235.out)
              have n9_ := Aside0.mk (below_drew1 HB.out)
              clear HO_15
              clear HO_17
              clear HO_236002
              clear BK215
              clear BK216
              clear BK217
              clear BK227
              clear BK234
              clear BK235
              clear HB
              have HO_15 := n0_
              have HO_17 := n1_
              have HO_236002 := n2_
              have BK215 := n3_
              have BK216 := n4_
              have BK217 := n5_
              have BK227 := n6_
              have BK234 := n7_
              have BK235 := n8_
              have HB := n9_
              clear n0_ n1_ n2_ n3_ n4_ n5_ n6_ n7_ n8_ n9_
              have p251 : 0 ≤ (x19_2 : Int) := of_decide_eq_true (by first | (with_reducible assumption) | assumption)
              have q251 : x19_2 < (t240.length : Int) := of_decide_eq_true (by first | (with_reducible assumption) | assumption)
              obtain ⟨ad251, e251, hx251_0⟩ := Kd.at_string (Kd.R_reads' HO_17.out).2.2 x19_2 p251 q251
              obtain rfl : ad244 = ad251 := (by injection e251)
              replace p251 := eq_true p251
              replace q251 := eq_true q251
              refine start_ (n := 10) (S := fun w' => w'.cell? ⟨gb235, 0, none⟩ = some (.bool (eqT23 a1_0 a3_0 a1_1 a3_1 a1_2 a3_2)) ∧ w'.cell? ⟨gb235, 1, none⟩ = some (.bool (t224 == t231)) ∧ w'.cell? ⟨gb235, 2, none⟩ = some (u236002) ∧ w'.cell? ⟨gb235, 3, none⟩ = some (.slice none 0 0) ∧ w'.cell? (ad244.add (x19_2).toNat) = some (.string (rdOf ByteArray.empty t240 x19_2))) (ds := [7, 9]) #[false, false, false, false, false, false, false, false, false, false] (by kernel_rfl) rfl rfl ⟨(blk_cell BK235.out 0).trans rfl, (blk_cell BK235.out 1).trans rfl, (blk_cell BK235.out 2).trans rfl, (blk_cell BK235.out 3).trans rfl, hx251_0⟩ (fun hHeld => ?_); refine with_tabW gambrelref22_Of.tab13 gambrelref22_Of.bits13 (fun HT_ HW_ => ?_)
              generalize wr.drew = w93 at HO_15 HO_17 HO_236002 BK215 BK216 BK217 BK227 BK234 BK235 HB hx251_0 hHeld ⊢
              refine pure_ (i := 0) (N := some 107) (v := ?_) (a' := ?_) #[true, false, false, false, false, false, false, false, false, false] rfl rfl (any_of HT_.out (by kernel_rfl)) (fun _ _ _ h => h) (Or.inl ⟨by rfl, ?_⟩) ?_ ?_
              rotate_left
              ·intro w'
               go_simp
               with_reducible rfl
              rotate_left
              ·simp only [Act.put, List.setIfInBounds_toArray, List.set_cons_zero, List.set_cons_succ, i64_w, i32_w]
               rfl
              refine pure_ (i := 2) (N := some 109) (v := ?_) (a' := ?_) #[true, false, true, false, false, false, false, false, false, false] rfl rfl (any_of HT_.out (by kernel_rfl)) (fun _ _ _ h => h) (Or.inl ⟨by rfl, ?_⟩) ?_ ?_
              rotate_left
              ·intro w'
               go_simp
               with_reducible rfl
              rotate_left
              ·simp only [Act.put, List.setIfInBounds_toArray, List.set_cons_zero, List.set_cons_succ, i64_w, i32_w]
               rfl
              refine pure_ (i := 3) (N := some 110) (v := ?_) (a' := ?_) #[true, false, true, true, false, false, false, false, false, false] rfl rfl (any_of HT_.out (by kernel_rfl)) (fun _ _ _ h => h) (Or.inl ⟨by rfl, ?_⟩) ?_ ?_
              rotate_left
              ·intro w'
               go_simp
               with_reducible rfl
              rotate_left
              ·simp only [Act.put, List.setIfInBounds_toArray, List.set_cons_zero, List.set_cons_succ, i64_w, i32_w]
               rfl
              refine pure_ (i := 4) (N := some 111) (v := ?_) (a' := ?_) #[true, false, true, true, true, false, false, false, false, false] rfl rfl (any_of HT_.out (by kernel_rfl)) (fun _ _ _ h => h) (Or.inl ⟨by rfl, ?_⟩) ?_ ?_
              rotate_left
              ·intro w'
               go_simp
               with_reducible rfl
              rotate_left
              ·simp only [Act.put, List.setIfInBounds_toArray, List.set_cons_zero, List.set_cons_succ, i64_w, i32_w]
               rfl
              refine take_ (i := 1) (N := some 108) (v := ?_) (a' := ?_) #[true, true, true, true, true, false, false, false, false, false] rfl rfl (take_ofW HT_.out HW_.out (by kernel_rfl)) (fun _ _ _ h => h) (Or.inl ⟨by rfl, ?_⟩) hHeld ?_ ?_
              rotate_left
              ·rintro w' ⟨s0, s1, s2, s3, s4⟩
               go_simp
               with_reducible rfl
              rotate_left
              ·simp only [Act.put, List.setIfInBounds_toArray, List.set_cons_zero, List.set_cons_succ, i64_w, i32_w]
               rfl
              refine take_ (i := 5) (N := some 112) (v := ?_) (a' := ?_) #[true, true, true, true, true, true, false, false, false, false] rfl rfl (take_ofW HT_.out HW_.out (by kernel_rfl)) (fun _ _ _ h => h) (Or.inl ⟨by rfl, ?_⟩) hHeld ?_ ?_
              rotate_left
              ·rintro w' ⟨s0, s1, s2, s3, s4⟩
               go_simp
               with_reducible rfl
              rotate_left
              ·simp only [Act.put, List.setIfInBounds_toArray, List.set_cons_zero, List.set_cons_succ, i64_w, i32_w]
               rfl
              refine one_ (i := 6) (N := some 113) #[true, true, true, true, true, true, true, false, false, false] rfl rfl (one_of HT_.out (by kernel_rfl)) (by decide) (fun K hK => ?_)
              refine value_ (w1 := ?_) (v := ?_) (by rfl) rfl ?_ ?_
              rotate_left 2
              ·go_simp
               constructor
               ·rfl
               ·rfl
              refine hK.out _ _ ⟨(blk_cell (blk_alloc BK235.out _) 0).trans rfl, (blk_cell (blk_alloc BK235.out _) 1).trans rfl, (blk_cell (blk_alloc BK235.out _) 2).trans rfl, (blk_cell (blk_alloc BK235.out _) 3).trans rfl, (World.cell?_alloc_lt _ _ _ (World.block_lt_of_cell? _ _ (hHeld.2.2.2.2))).trans (hHeld.2.2.2.2)⟩ (fun hHeld => ?_)
              clear hK K
              refine norm_ (a' := ?_) ?_ ?_
              rotate_left
              ·show Act.put _ (some 113) _ = _
               simp only [Act.put, List.setIfInBounds_toArray, List.set_cons_zero, List.set_cons_succ, i64_w, i32_w]
               rfl
              refine last_ (i := 7) (N := some 114) #[true, true, true, true, true, true, true, true, false, false] rfl rfl (one_of HT_.out (by kernel_rfl)) (by decide) (fun K hK => ?_)
              refine Kd.R_append_step Kd.string (w0 := w) w.heap.size (by rfl) (.tmp 108) (.tmp 113) 28 9 (.string ⟨#[]⟩) 16 rfl Tryd.underlying28 info9 rfl (by decide) (by omega) u236002 x236002_2 (rdOf ByteArray.empty t240 x19_2) [.string (rdOf ByteArray.empty t240 x19_2)] (fun k_ => some k_ ≠ (.slice Ao92 t236.length co92 : Value).ownBlock ∧ some k_ ≠ (.slice (some ad244) t240.length co91 : Value).ownBlock) (fun _ => False) rfl rfl ?aP (fun _ hk => hk.elim) ?aF ?aO ?aB ?aS ?aL ?_
              (case aP => exact rfl)
              (case aB => exact (by repeat (first | (with_reducible first | exact HB.out | apply below_alloc | apply pw_below_drewN | apply below_drew1 | refine below_set ?_ GE215.out | refine below_set ?_ GE216.out | refine below_set ?_ GE217.out | refine below_set ?_ GE227.out | refine below_set ?_ GE234.out | refine below_set ?_ GE235.out) | exact HB.out)))
              (case aF => exact (fun k_ hk => ⟨Kd.fresh' (Kd.R_lt (by (with_reducible repeat (first | apply Kd.R_alloc | apply Kd.R_drewN | apply Kd.R_drew)); exact HO_15.out)) k_ hk, Kd.fresh' (Kd.R_lt (by (with_reducible repeat (first | apply Kd.R_alloc | apply Kd.R_drewN | apply Kd.R_drew)); exact HO_17.out)) k_ hk⟩))
              (case aO => exact (by (with_reducible repeat (first | apply Kd.R_alloc | apply Kd.R_drewN | apply Kd.R_drew)); exact HO_236002.out))
              (case aS => exact (below_size (by repeat (first | (with_reducible first | exact HB.out | apply below_alloc | apply pw_below_drewN | apply below_drew1 | refine below_set ?_ GE215.out | refine below_set ?_ GE216.out | refine below_set ?_ GE217.out | refine below_set ?_ GE227.out | refine below_set ?_ GE234.out | refine below_set ?_ GE235.out) | exact HB.out))))
              (case aL => have := LMc90.out; omega)
              intro v253 w94 ho hb hg hat
              rw [← Ny252.out] at ho
              have n0_ := Aside0.mk (Kd.R_after (ok := (fun k_ => some k_ ≠ (.slice (some ad244) t240.length co91 : Value).ownBlock)) (by (with_reducible repeat (first | apply Kd.R_alloc | apply Kd.R_drewN | apply Kd.R_drew)); exact HO_15.out) hg hat)
              have n1_ := Aside0.mk (Kd.R_after (ok := (fun k_ => some k_ ≠ (.slice Ao92 t236.length co92 : Value).ownBlock)) (by (with_reducible repeat (first | apply Kd.R_alloc | apply Kd.R_drewN | apply Kd.R_drew)); exact HO_17.out) hg hat)
              have n2_ := Aside0.mk (blk_grown (g := gb215) (o := .cells #[.int .i64 a1_0, .int .i64 a1_1, .int .i64 a1_2] 23 (0, 0)) (by (with_reducible repeat (first | refine blk_drewN ?_ _ | refine blk_drew ?_ | refine blk_alloc ?_ _)); exact BK215.out) hg (Kd.R_ne HO_236002.out BK215.out (by decide)))
              have n3_ := Aside0.mk (blk_grown (g := gb216) (o := .cells #[.int .i64 a3_0, .int .i64 a3_1, .int .i64 a3_2] 23 (0, 0)) (by (with_reducible repeat (first | refine blk_drewN ?_ _ | refine blk_drew ?_ | refine blk_alloc ?_ _)); exact BK216.out) hg (Kd.R_ne HO_236002.out BK216.out (by decide)))
              have n4_ := Aside0.mk (blk_grown (g := gb217) (o := .cells #[.bool false, .bool false, .slice none 0 0, .slice none 0 0] 34 (0, 0)) (by (with_reducible repeat (first | refine blk_drewN ?_ _ | refine blk_drew ?_ | refine blk_alloc ?_ _)); exact BK217.out) hg (Kd.R_ne HO_236002.out BK217.out (by decide)))
              have n5_ := Aside0.mk (blk_grown (g := gb227) (o := .cells #[.string t221, .int .i64 t222, .int .u32 t223, .int .u8 t224, .int .i64 t225] 60 (0, 0)) (by (with_reducible repeat (first | refine blk_drewN ?_ _ | refine blk_drew ?_ | refine blk_alloc ?_ _)); exact BK227.out) hg (Kd.R_ne HO_236002.out BK227.out (by decide)))
              have n6_ := Aside0.mk (blk_grown (g := gb234) (o := .cells #[.string t228, .int .i64 t229, .int .u32 t230, .int .u8 t231, .int .i64 t232] 60 (0, 0)) (by (with_reducible repeat (first | refine blk_drewN ?_ _ | refine blk_drew ?_ | refine blk_alloc ?_ _)); exact BK234.out) hg (Kd.R_ne HO_236002.out BK234.out (by decide)))
              have n7_ := Aside0.mk (blk_grown (g := gb235) (o := .cells #[.bool (eqT23 a1_0 a3_0 a1_1 a3_1 a1_2 a3_2), .bool (t224 == t231), u236002, .slice none 0 0] 34 (0, 0)) (by (with_reducible repeat (first | refine blk_drewN ?_ _ | refine blk_drew ?_ | refine blk_alloc ?_ _)); exact BK235.out) hg (Kd.R_ne HO_236002.out BK235.out (by decide)))
              have n8_ := Aside0.mk (hb)
              have n9_ := Aside0.mk (ho)
              clear HO_15
              clear HO_17
              clear BK215
              clear BK216
              clear BK217
              clear BK227
              clear BK234
              clear BK235
              clear HB
              clear HO_236002
              have HO_15 := n0_
              have HO_17 := n1_
              have BK215 := n2_
              have BK216 := n3_
              have BK217 := n4_
              have BK227 := n5_
              have BK234 := n6_
              have BK235 := n7_
              have HB := n8_
              have HO254 := n9_
              clear n0_ n1_ n2_ n3_ n4_ n5_ n6_ n7_ n8_ n9_
              clear ho hb hg hat
              obtain ⟨Ao95, co95, eo95⟩ := Kd.R_slice HO254.out
              (first | subst eo95 | (injection eo95 with f1_ f2_ f3_; have f4_ := f1_.symm; have f5_ := f3_.symm; clear f1_ f2_ f3_; subst f4_; subst f5_))
              refine hK.out _ _ ?_
              clear hK K
              refine norm_ (a' := ?_) ?_ ?_
              rotate_left
              ·show Act.put _ (some 114) _ = _
               simp only [Act.put, List.setIfInBounds_toArray, List.set_cons_zero, List.set_cons_succ, i64_w, i32_w]
               rfl
              refine pure_ (i := 8) (N := some 115) (v := ?_) (a' := ?_) #[true, true, true, true, true, true, true, true, true, false] rfl rfl (any_of HT_.out (by kernel_rfl)) (fun _ _ _ h => h) (Or.inl ⟨by rfl, ?_⟩) ?_ ?_
              rotate_left
              ·intro w'
               go_simp
               with_reducible rfl
              rotate_left
              ·simp only [Act.put, List.setIfInBounds_toArray, List.set_cons_zero, List.set_cons_succ, i64_w, i32_w]
               rfl
              refine last_ (i := 9) (N := none) #[true, true, true, true, true, true, true, true, true, true] rfl rfl (one_of HT_.out (by kernel_rfl)) (by decide) (fun K hK => ?_)
              have hs96 : w94.cell? ⟨gb235, 2, none⟩ = some (u236002) := (blk_cell BK235.out 2).trans rfl
              have hfs96 := blk_frozen BK235.out 2
              have hns96_0 := NB215_235.out
              have hns96_1 := NB216_235.out
              have hns96_2 := NB217_235.out
              have hns96_3 := NB227_235.out
              have hns96_4 := NB234_235.out
              have hms96_0 := NB235_215.out
              have hms96_1 := NB235_216.out
              have hms96_2 := NB235_217.out
              have hms96_3 := NB235_227.out
              have hms96_4 := NB235_234.out
              refine skip_ (w1 := ?_) (by rfl) rfl ?_ ?_
              rotate_left
              ·go_simp
               rfl
              refine hK.out _ _ ?_
              clear hK K
              refine done_ (done_of HT_.out (by kernel_rfl)) ?_
              try go_wp2
              go_roundg k2
              case measure => have := HJ4.out; have := HK2.out; omega
              case rel => exact ⟨(wrap64 (x19_2 + 1)), (y252), (.slice Ao95 y252.length co95), (by first | rfl | (simp; done) | (simp [*]; done)), H', ⟨by have := HJ4.out; have := HK2.out; omega⟩, ⟨by (with_reducible repeat (first | apply Kd.R_alloc | apply Kd.R_drewN | apply Kd.R_drew)); exact Kd.R_mono (Kd.R_far (p := ⟨gb235, 2, none⟩) (Kd.R_types HO_15.out BK235.out (by decide)) (fun _ hk => hk.2) (.slice Ao95 y252.length co95)) (fun _ hk => ⟨hk.1.1, hk.1.2⟩)⟩, ⟨by (with_reducible repeat (first | apply Kd.R_alloc | apply Kd.R_drewN | apply Kd.R_drew)); exact Kd.R_mono (Kd.R_far (p := ⟨gb235, 2, none⟩) (Kd.R_types HO_17.out BK235.out (by decide)) (fun _ hk => hk.2) (.slice Ao95 y252.length co95)) (fun _ hk => ⟨hk.1.1, hk.1.2⟩)⟩, ⟨by (with_reducible repeat (first | apply Kd.R_alloc | apply Kd.R_drewN | apply Kd.R_drew)); exact Kd.R_mono (Kd.R_far (p := ⟨gb235, 2, none⟩) (Kd.R_types HO254.out BK235.out (by decide)) (fun _ hk => hk.2) (.slice Ao95 y252.length co95)) (fun _ hk => ⟨hk.1.1, hk.1.2⟩)⟩, ⟨by (with_reducible repeat (first | refine blk_drewN ?_ _ | refine blk_drew ?_ | refine blk_alloc ?_ _)); refine blk_far ?_ NB215_235.out _; (with_reducible repeat (first | refine blk_drewN ?_ _ | refine blk_drew ?_ | refine blk_alloc ?_ _)); exact BK215.out⟩, ⟨by (with_reducible repeat (first | refine blk_drewN ?_ _ | refine blk_drew ?_ | refine blk_alloc ?_ _)); refine blk_far ?_ NB216_235.out _; (with_reducible repeat (first | refine blk_drewN ?_ _ | refine blk_drew ?_ | refine blk_alloc ?_ _)); exact BK216.out⟩, ⟨by (with_reducible repeat (first | refine blk_drewN ?_ _ | refine blk_drew ?_ | refine blk_alloc ?_ _)); refine blk_far ?_ NB217_235.out _; (with_reducible repeat (first | refine blk_drewN ?_ _ | refine blk_drew ?_ | refine blk_alloc ?_ _)); exact BK217.out⟩, ⟨by (with_reducible repeat (first | refine blk_drewN ?_ _ | refine blk_drew ?_ | refine blk_alloc ?_ _)); refine blk_far ?_ NB227_235.out _; (with_reducible repeat (first | refine blk_drewN ?_ _ | refine blk_drew ?_ | refine blk_alloc ?_ _)); exact BK227.out⟩, ⟨by (with_reducible repeat (first | refine blk_drewN ?_ _ | refine blk_drew ?_ | refine blk_alloc ?_ _)); refine blk_far ?_ NB234_235.out _; (with_reducible repeat (first | refine blk_drewN ?_ _ | refine blk_drew ?_ | refine blk_alloc ?_ _)); exact BK234.out⟩, ⟨by (with_reducible repeat (first | refine blk_drewN ?_ _ | refine blk_drew ?_ | refine blk_alloc ?_ _)); refine blk_put (cs := #[.bool (eqT23 a1_0 a3_0 a1_1 a3_1 a1_2 a3_2), .bool (t224 == t231), u236002, .slice none 0 0]) ?_ 2 _ rfl; (with_reducible repeat (first | refine blk_drewN ?_ _ | refine blk_drew ?_ | refine blk_alloc ?_ _)); exact BK235.out⟩, ⟨by repeat (first | (with_reducible first | exact HB.out | apply below_alloc | apply pw_below_drewN | apply below_drew1 | refine below_set ?_ GE215.out | refine below_set ?_ GE216.out | refine below_set ?_ GE217.out | refine below_set ?_ GE227.out | refine below_set ?_ GE234.out | refine below_set ?_ GE235.out) | exact HB.out)⟩⟩
             ·rw [if_neg c90] at H
              exact absurd H (by simp)
           ·rw [if_neg c86] at H
            exact absurd H (by simp)
          ·rw [if_neg c85] at H
           exact absurd H (by simp)
        ·rw [if_neg c75] at H
         exact absurd H (by simp)
       ·rw [if_neg c74] at H
        have c74b0 : decide (x19_2 < (t240.length : Int)) = false := decide_eq_false c74
        clear c74
        have H' := Aside0.mk H
        clear H
        obtain ⟨Ao97, co97, eo97⟩ := Kd.R_slice HO_17.out
        subst eo97
        go_wp2
        go_loopg [21] k2 (fun kq v21 w' => ∃ (x21_3 : Int) (x236003_3 : List ByteArray) (u236003 : Value), v21 = .int .i64 x21_3 ∧ Aside0 (gambrelref22_Of.l1 kq t236 t240 x21_3 (eqT23 a1_0 a3_0 a1_1 a3_1 a1_2 a3_2) (t224 == t231) x236002_2 x236003_3 = some (r1, r2, r3, r4, r5)) ∧ Aside0 (kq ≤ k2) ∧ Aside0 (Kd.R Kd.string 9 w' w.heap.size (fun k_ => some k_ ≠ ((.slice Ao97 t240.length co97) : Value).ownBlock ∧ some k_ ≠ (u236002 : Value).ownBlock ∧ some k_ ≠ (u236003 : Value).ownBlock) v237 t236) ∧ Aside0 (Kd.R Kd.string 9 w' w.heap.size (fun k_ => some k_ ≠ (v237 : Value).ownBlock ∧ some k_ ≠ (u236002 : Value).ownBlock ∧ some k_ ≠ (u236003 : Value).ownBlock) (.slice Ao97 t240.length co97) t240) ∧ Aside0 (Kd.R Kd.string 9 w' w.heap.size (fun k_ => some k_ ≠ (v237 : Value).ownBlock ∧ some k_ ≠ ((.slice Ao97 t240.length co97) : Value).ownBlock ∧ some k_ ≠ (u236003 : Value).ownBlock) u236002 x236002_2) ∧ Aside0 (Kd.R Kd.string 9 w' w.heap.size (fun k_ => some k_ ≠ (v237 : Value).ownBlock ∧ some k_ ≠ ((.slice Ao97 t240.length co97) : Value).ownBlock ∧ some k_ ≠ (u236002 : Value).ownBlock) u236003 x236003_3) ∧ Aside0 (w'.heap[gb215]? = some (.cells #[.int .i64 a1_0, .int .i64 a1_1, .int .i64 a1_2] 23 (0, 0))) ∧ Aside0 (w'.heap[gb216]? = some (.cells #[.int .i64 a3_0, .int .i64 a3_1, .int .i64 a3_2] 23 (0, 0))) ∧ Aside0 (w'.heap[gb217]? = some (.cells #[.bool false, .bool false, (.slice none 0 0), (.slice none 0 0)] 34 (0, 0))) ∧ Aside0 (w'.heap[gb227]? = some (.cells #[.string t221, .int .i64 t222, .int .u32 t223, .int .u8 t224, .int .i64 t225] 60 (0, 0))) ∧ Aside0 (w'.heap[gb234]? = some (.cells #[.string t228, .int .i64 t229, .int .u32 t230, .int .u8 t231, .int .i64 t232] 60 (0, 0))) ∧ Aside0 (w'.heap[gb235]? = some (.cells #[.bool (eqT23 a1_0 a3_0 a1_1 a3_1 a1_2 a3_2), .bool (t224 == t231), u236002, u236003] 34 (0, 0))) ∧ Aside0 (Below w.heap.size w w'))
        case atStart => exact ⟨(0), (([] : List ByteArray)), (.slice none 0 0), (by first | rfl | (simp; done) | (simp [*]; done)), H', ⟨Nat.le_refl _⟩, ⟨by (with_reducible repeat (first | apply Kd.R_alloc | apply Kd.R_drewN | apply Kd.R_drew)); exact Kd.R_mono HO_15.out (fun _ hk => ⟨hk.1, ⟨hk.2, (by simp [Value.ownBlock])⟩⟩)⟩, ⟨by (with_reducible repeat (first | apply Kd.R_alloc | apply Kd.R_drewN | apply Kd.R_drew)); exact Kd.R_mono HO_17.out (fun _ hk => ⟨hk.1, ⟨hk.2, (by simp [Value.ownBlock])⟩⟩)⟩, ⟨by (with_reducible repeat (first | apply Kd.R_alloc | apply Kd.R_drewN | apply Kd.R_drew)); exact Kd.R_mono HO_236002.out (fun _ hk => ⟨hk.1, ⟨hk.2, (by simp [Value.ownBlock])⟩⟩)⟩, ⟨by first | exact Kd.R_nil _ _ _ _ _ | exact Kd.N_nil _ _ _ _ _ | exact Kd.V_nil _ _ _ _ _ | exact Kd.Q_nil _ _ _ _ _ | exact Kd.S_nil _ _ _ _ _⟩, ⟨by (with_reducible repeat (first | refine blk_drewN ?_ _ | refine blk_drew ?_ | refine blk_alloc ?_ _)); exact BK215.out⟩, ⟨by (with_reducible repeat (first | refine blk_drewN ?_ _ | refine blk_drew ?_ | refine blk_alloc ?_ _)); exact BK216.out⟩, ⟨by (with_reducible repeat (first | refine blk_drewN ?_ _ | refine blk_drew ?_ | refine blk_alloc ?_ _)); exact BK217.out⟩, ⟨by (with_reducible repeat (first | refine blk_drewN ?_ _ | refine blk_drew ?_ | refine blk_alloc ?_ _)); exact BK227.out⟩, ⟨by (with_reducible repeat (first | refine blk_drewN ?_ _ | refine blk_drew ?_ | refine blk_alloc ?_ _)); exact BK234.out⟩, ⟨by (with_reducible repeat (first | refine blk_drewN ?_ _ | refine blk_drew ?_ | refine blk_alloc ?_ _)); exact BK235.out⟩, ⟨by repeat (first | (with_reducible first | exact HB.out | apply below_alloc | apply pw_below_drewN | apply below_drew1 | refine below_set ?_ GE215.out | refine below_set ?_ GE216.out | refine below_set ?_ GE217.out | refine below_set ?_ GE227.out | refine below_set ?_ GE234.out | refine below_set ?_ GE235.out) | exact HB.out)⟩⟩
        case round =>
         clear H'
         try clear c2
         try clear p2
         try clear q2
         try clear hx2
         try clear c3
         try clear c4
         try clear c5
         try clear c6
         try clear p6
         try clear c7
         try clear c8
         try clear c9
         try clear p24
         try clear q24
         try clear hx24
         try clear c25
         try clear p25
         try clear q25
         try clear hx25
         try clear c34
         try clear c35
         try clear c36
         try clear c40
         try clear c40b0
         try clear c40b1
         try clear c43
         try clear c44
         try clear c48
         try clear c49
         try clear c50
         try clear c52
         try clear c56
         try clear c57
         try clear c58
         try clear c59
         try clear p64
         try clear c68
         try clear c71
         try clear c74
         try clear c74b0
         try clear c75
         try clear c75b0
         try clear c77
         try clear c77b0
         try clear c78
         try clear c85
         try clear c85b0
         try clear c86
         try clear c86b0
         try clear c87
         try clear c87b0
         try clear c87b1
         try clear c90
         try clear hcz17_0
         try clear hcz17_1
         try clear hcz17_2
         try clear hcz20_0
         try clear hcz20_1
         try clear hcz20_2
         try clear hcz22_0
         try clear hcz22_1
         try clear hcz22_2
         try clear hcz25_0
         try clear hcz25_1
         try clear hcz25_2
         try clear hcz28_0
         try clear hcz28_1
         try clear hcz28_2
         try clear hcz32_0
         try clear hcz32_1
         try clear hcz32_2
         try clear hcz37_0
         try clear hcz37_1
         try clear hcz37_2
         try clear hcz37_3
         try clear hcz45_0
         try clear hcz45_1
         try clear hcz45_2
         try clear hcz51_0
         try clear hcz51_1
         try clear hcz51_2
         try clear hcz51_3
         try clear hcz51_4
         try clear hcz53_0
         try clear hcz53_1
         try clear hcz53_2
         try clear hcz60_0
         try clear hcz60_1
         try clear hcz60_2
         try clear hcz60_3
         try clear hcz60_4
         try clear hcz69_0
         try clear hcz69_1
         try clear hcz69_2
         try clear hcz72_0
         try clear hcz72_1
         try clear hcz72_2
         try clear hfz17_0
         try clear hfz17_1
         try clear hfz17_2
         try clear hfz20_0
         try clear hfz20_1
         try clear hfz20_2
         try clear hfz22_0
         try clear hfz22_1
         try clear hfz22_2
         try clear hfz25_0
         try clear hfz25_1
         try clear hfz25_2
         try clear hfz28_0
         try clear hfz28_1
         try clear hfz28_2
         try clear hfz32_0
         try clear hfz32_1
         try clear hfz32_2
         try clear hfz37_0
         try clear hfz37_1
         try clear hfz37_2
         try clear hfz37_3
         try clear hfz45_0
         try clear hfz45_1
         try clear hfz45_2
         try clear hfz51_0
         try clear hfz51_1
         try clear hfz51_2
         try clear hfz51_3
         try clear hfz51_4
         try clear hfz53_0
         try clear hfz53_1
         try clear hfz53_2
         try clear hfz60_0
         try clear hfz60_1
         try clear hfz60_2
         try clear hfz60_3
         try clear hfz60_4
         try clear hfz69_0
         try clear hfz69_1
         try clear hfz69_2
         try clear hfz72_0
         try clear hfz72_1
         try clear hfz72_2
         try clear hx244_0
         try clear hx246_0
         try clear hx250_0
         try clear hx251_0
         try clear p2
         try clear p244
         try clear p246
         try clear p250
         try clear p251
         try clear p6
         try clear p64
         try clear q244
         try clear q246
         try clear q250
         try clear q251
         obtain ⟨x21_3, x236003_3, u236003, rfl, HA, HK3, HO_15, HO_17, HO_236002, HO_236003, BK215, BK216, BK217, BK227, BK234, BK235, HB⟩ := hrel
         cases gk with
         | zero => exact absurd HA.out (by simp [gambrelref22_Of.l1])
         | succ k3 =>
          have H := HA.out
          clear HA
          simp only [gambrelref22_Of.l1] at H
          by_cases c98 : x21_3 < (t236.length : Int)
          ·rw [if_pos c98] at H
           have c98b0 : decide (x21_3 < (t236.length : Int)) = true := decide_eq_true c98
           clear c98
           by_cases c99 : 0 ≤ x21_3
           ·rw [if_pos c99] at H
            have c99b0 : decide (0 ≤ x21_3) = true := decide_eq_true c99
            clear c99
            replace H := Option.bind_eq_some_iff.mp H
            obtain ⟨t256, A1000, H⟩ := H
            replace H : (if t256 < 0 then (if x236003_3.length < 8796093022208 then (gambrelref22_Of.l1 k3 t236 t240 (wrap64 (x21_3 + 1)) (eqT23 a1_0 a3_0 a1_1 a3_1 a1_2 a3_2) (t224 == t231) x236002_2 (x236003_3 ++ [rdOf ByteArray.empty t236 x21_3])) else (none)) else (gambrelref22_Of.l1 k3 t236 t240 (wrap64 (x21_3 + 1)) (eqT23 a1_0 a3_0 a1_1 a3_1 a1_2 a3_2) (t224 == t231) x236002_2 x236003_3)) = some (r1, r2, r3, r4, r5) := H
            have A100 := Aside0.mk A1000
            clear A1000
            by_cases c101 : t256 < 0
            ·rw [if_pos c101] at H
             have c101b0 : decide (t256 < 0) = true := decide_eq_true c101
             clear c101
             by_cases c102 : x236003_3.length < 8796093022208
             ·rw [if_pos c102] at H
              have LMc102 := Aside0.mk c102
              clear c102
              obtain ⟨y258, hy258⟩ : ∃ y_ : List ByteArray, y_ = (x236003_3 ++ [rdOf ByteArray.empty t236 x21_3]) := ⟨_, rfl⟩
              replace H : (gambrelref22_Of.l1 k3 t236 t240 (wrap64 (x21_3 + 1)) (eqT23 a1_0 a3_0 a1_1 a3_1 a1_2 a3_2) (t224 == t231) x236002_2 y258) = some (r1, r2, r3, r4, r5) := by first | (rw [hy258]; with_reducible exact H) | (have H2_ := (Option.bind_some _ _).symm.trans H; rw [hy258]; with_reducible exact H2_) | (have H2_ := (Option.bind_some _ _).symm.trans H; with_reducible exact H2_) | with_reducible exact H | (rw [hy258]; exact H) | exact H
              have Ny258 := Aside0.mk hy258
              clear hy258
              have H' := Aside0.mk H
              clear H
              obtain ⟨Ao103, co103, eo103⟩ := Kd.R_slice HO_15.out
              subst eo103
              have p255 : 0 ≤ (x21_3 : Int) := of_decide_eq_true (by first | (with_reducible assumption) | assumption)
              have q255 : x21_3 < (t236.length : Int) := of_decide_eq_true (by first | (with_reducible assumption) | assumption)
              obtain ⟨ad255, e255, hx255_0⟩ := Kd.at_string (Kd.R_reads' HO_15.out).2.2 x21_3 p255 q255
              cases e255
              replace p255 := eq_true p255
              replace q255 := eq_true q255
              try go_wp2_with (first | ((with_reducible refine gate_callee (f := 25) rfl ?_); refine goesL_ (some 127) rfl rfl Tryd.func25 (by kernel_rfl) rfl #[.slice Ao97 t240.length co97, .string (rdOf ByteArray.empty t236 x21_3)] rfl (by (try simp only [List.map_toArray, List.map_cons, List.map_nil]); first | done | rfl | (simp only [List.length_drop, List.length_take]; rfl)) ?_; (with_reducible refine (gambrelref22_at.calls k3 _ _ t240 (rdOf ByteArray.empty t236 x21_3) t256 _ ?side1 ?side2 A100.out).mono ?_); (case side1 => repeat (first | exact (Kd.R_reads' HO_17.out).2.2 | (with_reducible refine Kd.C_alloc ?_ _) | (with_reducible refine Kd.C_drewN ?_ _) | (with_reducible refine Kd.C_drew ?_))); (case side2 => exact (Kd.R_reads' HO_17.out).2.1); rintro e w' ⟨rfl, ⟨nd, rfl⟩⟩; refine ⟨_, rfl, ?_⟩; (try (rw [drewN_self wr]; generalize hq_ : World.drewN wr _ = wr; have n0_ : Aside0 (Kd.R Kd.string 9 wr w.heap.size (fun k_ => some k_ ≠ (.slice Ao97 t240.length co97 : Value).ownBlock ∧ some k_ ≠ (u236002 : Value).ownBlock ∧ some k_ ≠ (u236003 : Value).ownBlock) (.slice (some ad255) t236.length co103) t236) := ⟨by rw [← hq_]; exact (by (with_reducible repeat (first | apply Kd.R_alloc | apply Kd.R_drewN | apply Kd.R_drew)); exact HO_15.out)⟩; have n1_ : Aside0 (Kd.R Kd.string 9 wr w.heap.size (fun k_ => some k_ ≠ (.slice (some ad255) t236.length co103 : Value).ownBlock ∧ some k_ ≠ (u236002 : Value).ownBlock ∧ some k_ ≠ (u236003 : Value).ownBlock) (.slice Ao97 t240.length co97) t240) := ⟨by rw [← hq_]; exact (by (with_reducible repeat (first | apply Kd.R_alloc | apply Kd.R_drewN | apply Kd.R_drew)); exact HO_17.out)⟩; have n2_ : Aside0 (Kd.R Kd.string 9 wr w.heap.size (fun k_ => some k_ ≠ (.slice (some ad255) t236.length co103 : Value).ownBlock ∧ some k_ ≠ (.slice Ao97 t240.length co97 : Value).ownBlock ∧ some k_ ≠ (u236003 : Value).ownBlock) u236002 x236002_2) := ⟨by rw [← hq_]; exact (by (with_reducible repeat (first | apply Kd.R_alloc | apply Kd.R_drewN | apply Kd.R_drew)); exact HO_236002.out)⟩; have n3_ : Aside0 (Kd.R Kd.string 9 wr w.heap.size (fun k_ => some k_ ≠ (.slice (some ad255) t236.length co103 : Value).ownBlock ∧ some k_ ≠ (.slice Ao97 t240.length co97 : Value).ownBlock ∧ some k_ ≠ (u236002 : Value).ownBlock) u236003 x236003_3) := ⟨by rw [← hq_]; exact (by (with_reducible repeat (first | apply Kd.R_alloc | apply Kd.R_drewN | apply Kd.R_drew)); exact HO_236003.out)⟩; have n4_ : Aside0 (wr.heap[gb215]? = some (.cells #[.int .i64 a1_0, .int .i64 a1_1, .int .i64 a1_2] 23 (0, 0))) := ⟨by rw [← hq_]; exact (by (with_reducible repeat (first | refine blk_drewN ?_ _ | refine blk_drew ?_ | refine blk_alloc ?_ _)); exact BK215.out)⟩; have n5_ : Aside0 (wr.heap[gb216]? = some (.cells #[.int .i64 a3_0, .int .i64 a3_1, .int .i64 a3_2] 23 (0, 0))) := ⟨by rw [← hq_]; exact (by (with_reducible repeat (first | refine blk_drewN ?_ _ | refine blk_drew ?_ | refine blk_alloc ?_ _)); exact BK216.out)⟩; have n6_ : Aside0 (wr.heap[gb217]? = some (.cells #[.bool false, .bool false, .slice none 0 0, .slice none 0 0] 34 (0, 0))) := ⟨by rw [← hq_]; exact (by (with_reducible repeat (first | refine blk_drewN ?_ _ | refine blk_drew ?_ | refine blk_alloc ?_ _)); exact BK217.out)⟩; have n7_ : Aside0 (wr.heap[gb227]? = some (.cells #[.string t221, .int .i64 t222, .int .u32 t223, .int .u8 t224, .int .i64 t225] 60 (0, 0))) := ⟨by rw [← hq_]; exact (by (with_reducible repeat (first | refine blk_drewN ?_ _ | refine blk_drew ?_ | refine blk_alloc ?_ _)); exact BK227.out)⟩; have n8_ : Aside0 (wr.heap[gb234]? = some (.cells #[.string t228, .int .i64 t229, .int .u32 t230, .int .u8 t231, .int .i64 t232] 60 (0, 0))) := ⟨by rw [← hq_]; exact (by (with_reducible repeat (first | refine blk_drewN ?_ _ | refine blk_drew ?_ | refine blk_alloc ?_ _)); exact BK234.out)⟩; have n9_ : Aside0 (wr.heap[gb235]? = some (.cells #[.bool (eqT23 a1_0 a3_0 a1_1 a3_1 a1_2 a3_2), .bool (t224 == t231), u236002, u236003] 34 (0, 0))) := ⟨by rw [← hq_]; exact (by (with_reducible repeat (first | refine blk_drewN ?_ _ | refine blk_drew ?_ | refine blk_alloc ?_ _)); exact BK235.out)⟩; have n10_ : Aside0 (Below w.heap.size w wr) := ⟨by rw [← hq_]; exact (by repeat (first | (with_reducible first | exact HB.out | apply below_alloc | apply pw_below_drewN | apply below_drew1 | refine below_set ?_ GE215.out | refine below_set ?_ GE216.out | refine below_set ?_ GE217.out | refine below_set ?_ GE227.out | refine below_set ?_ GE234.out | refine below_set ?_ GE235.out) | exact HB.out))⟩; clear HO_15 HO_17 HO_236002 HO_236003 BK215 BK216 BK217 BK227 BK234 BK235 HB hq_; have HO_15 := n0_; have HO_17 := n1_; have HO_236002 := n2_; have HO_236003 := n3_; have BK215 := n4_; have BK216 := n5_; have BK217 := n6_; have BK227 := n7_; have BK234 := n8_; have BK235 := n9_; have HB := n10_; clear n0_ n1_ n2_ n3_ n4_ n5_ n6_ n7_ n8_ n9_ n10_))))
              have n0_ := Aside0.mk (Kd.R_drew HO_15.out)
              have n1_ := Aside0.mk (Kd.R_drew HO_17.out)
              have n2_ := Aside0.mk (Kd.R_drew HO_236002.out)
              have n3_ := Aside0.mk (Kd.R_drew HO_236003.out)
              have n4_ := Aside0.mk (blk_drew BK215.out)
              have n5_ := Aside0.mk (blk_drew BK216.out)
              have n6_ := Aside0.mk (blk_drew BK217.out)
              have n7_ := Aside0.mk (blk_drew BK227.out)
              have n8_ := Aside0.mk (blk_drew BK234.out)
              have n9_ := Aside0.mk (blk_drew BK235.out)
              have n10_ := Aside0.mk (below_drew1 HB.out)
              clear HO_15
              clear HO_17
              clear HO_236002
              clear HO_236003
              clear BK215
              clear BK216
              clear BK217
              clear BK227
              clear BK234
              clear BK235
              clear HB
              have HO_15 := n0_
              have HO_17 := n1_
              have HO_236002 := n2_
              have HO_236003 := n3_
              have BK215 := n4_
              have BK216 := n5_
              have BK217 := n6_
              have BK227 := n7_
              have BK234 := n8_
              have BK235 := n9_
              have HB := n10_
              clear n0_ n1_ n2_ n3_ n4_ n5_ n6_ n7_ n8_ n9_ n10_
              have p257 : 0 ≤ (x21_3 : Int) := of_decide_eq_true (by first | (with_reducible assumption) | assumption)
              have q257 : x21_3 < (t236.length : Int) := of_decide_eq_true (by first | (with_reducible assumption) | assumption)
              obtain ⟨ad257, e257, hx257_0⟩ := Kd.at_string (Kd.R_reads' HO_15.out).2.2 x21_3 p257 q257
              obtain rfl : ad255 = ad257 := (by injection e257)
              replace p257 := eq_true p257
              replace q257 := eq_true q257
              refine start_ (n := 10) (S := fun w' => w'.cell? ⟨gb235, 0, none⟩ = some (.bool (eqT23 a1_0 a3_0 a1_1 a3_1 a1_2 a3_2)) ∧ w'.cell? ⟨gb235, 1, none⟩ = some (.bool (t224 == t231)) ∧ w'.cell? ⟨gb235, 2, none⟩ = some (u236002) ∧ w'.cell? ⟨gb235, 3, none⟩ = some (u236003) ∧ w'.cell? (ad255.add (x21_3).toNat) = some (.string (rdOf ByteArray.empty t236 x21_3))) (ds := [7, 9]) #[false, false, false, false, false, false, false, false, false, false] (by kernel_rfl) rfl rfl ⟨(blk_cell BK235.out 0).trans rfl, (blk_cell BK235.out 1).trans rfl, (blk_cell BK235.out 2).trans rfl, (blk_cell BK235.out 3).trans rfl, hx257_0⟩ (fun hHeld => ?_); refine with_tabW gambrelref22_Of.tab18 gambrelref22_Of.bits18 (fun HT_ HW_ => ?_)
              generalize wr.drew = w104 at HO_15 HO_17 HO_236002 HO_236003 BK215 BK216 BK217 BK227 BK234 BK235 HB hx257_0 hHeld ⊢
              refine pure_ (i := 0) (N := some 129) (v := ?_) (a' := ?_) #[true, false, false, false, false, false, false, false, false, false] rfl rfl (any_of HT_.out (by kernel_rfl)) (fun _ _ _ h => h) (Or.inl ⟨by rfl, ?_⟩) ?_ ?_
              rotate_left
              ·intro w'
               go_simp
               with_reducible rfl
              rotate_left
              ·simp only [Act.put, List.setIfInBounds_toArray, List.set_cons_zero, List.set_cons_succ, i64_w, i32_w]
               rfl
              refine pure_ (i := 2) (N := some 131) (v := ?_) (a' := ?_) #[true, false, true, false, false, false, false, false, false, false] rfl rfl (any_of HT_.out (by kernel_rfl)) (fun _ _ _ h => h) (Or.inl ⟨by rfl, ?_⟩) ?_ ?_
              rotate_left
              ·intro w'
               go_simp
               with_reducible rfl
              rotate_left
              ·simp only [Act.put, List.setIfInBounds_toArray, List.set_cons_zero, List.set_cons_succ, i64_w, i32_w]
               rfl
              refine pure_ (i := 3) (N := some 132) (v := ?_) (a' := ?_) #[true, false, true, true, false, false, false, false, false, false] rfl rfl (any_of HT_.out (by kernel_rfl)) (fun _ _ _ h => h) (Or.inl ⟨by rfl, ?_⟩) ?_ ?_
              rotate_left
              ·intro w'
               go_simp
               with_reducible rfl
              rotate_left
              ·simp only [Act.put, List.setIfInBounds_toArray, List.set_cons_zero, List.set_cons_succ, i64_w, i32_w]
               rfl
              refine pure_ (i := 4) (N := some 133) (v := ?_) (a' := ?_) #[true, false, true, true, true, false, false, false, false, false] rfl rfl (any_of HT_.out (by kernel_rfl)) (fun _ _ _ h => h) (Or.inl ⟨by rfl, ?_⟩) ?_ ?_
              rotate_left
              ·intro w'
               go_simp
               with_reducible rfl
              rotate_left
              ·simp only [Act.put, List.setIfInBounds_toArray, List.set_cons_zero, List.set_cons_succ, i64_w, i32_w]
               rfl
              refine take_ (i := 1) (N := some 130) (v := ?_) (a' := ?_) #[true, true, true, true, true, false, false, false, false, false] rfl rfl (take_ofW HT_.out HW_.out (by kernel_rfl)) (fun _ _ _ h => h) (Or.inl ⟨by rfl, ?_⟩) hHeld ?_ ?_
              rotate_left
              ·rintro w' ⟨s0, s1, s2, s3, s4⟩
               go_simp
               with_reducible rfl
              rotate_left
              ·simp only [Act.put, List.setIfInBounds_toArray, List.set_cons_zero, List.set_cons_succ, i64_w, i32_w]
               rfl
              refine take_ (i := 5) (N := some 134) (v := ?_) (a' := ?_) #[true, true, true, true, true, true, false, false, false, false] rfl rfl (take_ofW HT_.out HW_.out (by kernel_rfl)) (fun _ _ _ h => h) (Or.inl ⟨by rfl, ?_⟩) hHeld ?_ ?_
              rotate_left
              ·rintro w' ⟨s0, s1, s2, s3, s4⟩
               go_simp
               with_reducible rfl
              rotate_left
              ·simp only [Act.put, List.setIfInBounds_toArray, List.set_cons_zero, List.set_cons_succ, i64_w, i32_w]
               rfl
              refine one_ (i := 6) (N := some 135) #[true, true, true, true, true, true, true, false, false, false] rfl rfl (one_of HT_.out (by kernel_rfl)) (by decide) (fun K hK => ?_)
              refine value_ (w1 := ?_) (v := ?_) (by rfl) rfl ?_ ?_
              rotate_left 2
              ·go_simp
               constructor
               ·rfl
               ·rfl
              refine hK.out _ _ ⟨(blk_cell (blk_alloc BK235.out _) 0).trans rfl, (blk_cell (blk_alloc BK235.out _) 1).trans rfl, (blk_cell (blk_alloc BK235.out _) 2).trans rfl, (blk_cell (blk_alloc BK235.out _) 3).trans rfl, (World.cell?_alloc_lt _ _ _ (World.block_lt_of_cell? _ _ (hHeld.2.2.2.2))).trans (hHeld.2.2.2.2)⟩ (fun hHeld => ?_)
              clear hK K
              refine norm_ (a' := ?_) ?_ ?_
              rotate_left
              ·show Act.put _ (some 135) _ = _
               simp only [Act.put, List.setIfInBounds_toArray, List.set_cons_zero, List.set_cons_succ, i64_w, i32_w]
               rfl
              refine last_ (i := 7) (N := some 136) #[true, true, true, true, true, true, true, true, false, false] rfl rfl (one_of HT_.out (by kernel_rfl)) (by decide) (fun K hK => ?_)
              refine Kd.R_append_step Kd.string (w0 := w) w.heap.size (by rfl) (.tmp 130) (.tmp 135) 28 9 (.string ⟨#[]⟩) 16 rfl Tryd.underlying28 info9 rfl (by decide) (by omega) u236003 x236003_3 (rdOf ByteArray.empty t236 x21_3) [.string (rdOf ByteArray.empty t236 x21_3)] (fun k_ => some k_ ≠ (.slice (some ad255) t236.length co103 : Value).ownBlock ∧ some k_ ≠ (.slice Ao97 t240.length co97 : Value).ownBlock ∧ some k_ ≠ (u236002 : Value).ownBlock) (fun _ => False) rfl rfl ?aP (fun _ hk => hk.elim) ?aF ?aO ?aB ?aS ?aL ?_
              (case aP => exact rfl)
              (case aB => exact (by repeat (first | (with_reducible first | exact HB.out | apply below_alloc | apply pw_below_drewN | apply below_drew1 | refine below_set ?_ GE215.out | refine below_set ?_ GE216.out | refine below_set ?_ GE217.out | refine below_set ?_ GE227.out | refine below_set ?_ GE234.out | refine below_set ?_ GE235.out) | exact HB.out)))
              (case aF => exact (fun k_ hk => ⟨Kd.fresh' (Kd.R_lt (by (with_reducible repeat (first | apply Kd.R_alloc | apply Kd.R_drewN | apply Kd.R_drew)); exact HO_15.out)) k_ hk, Kd.fresh' (Kd.R_lt (by (with_reducible repeat (first | apply Kd.R_alloc | apply Kd.R_drewN | apply Kd.R_drew)); exact HO_17.out)) k_ hk, Kd.fresh' (Kd.R_lt (by (with_reducible repeat (first | apply Kd.R_alloc | apply Kd.R_drewN | apply Kd.R_drew)); exact HO_236002.out)) k_ hk⟩))
              (case aO => exact (by (with_reducible repeat (first | apply Kd.R_alloc | apply Kd.R_drewN | apply Kd.R_drew)); exact HO_236003.out))
              (case aS => exact (below_size (by repeat (first | (with_reducible first | exact HB.out | apply below_alloc | apply pw_below_drewN | apply below_drew1 | refine below_set ?_ GE215.out | refine below_set ?_ GE216.out | refine below_set ?_ GE217.out | refine below_set ?_ GE227.out | refine below_set ?_ GE234.out | refine below_set ?_ GE235.out) | exact HB.out))))
              (case aL => have := LMc102.out; omega)
              intro v259 w105 ho hb hg hat
              rw [← Ny258.out] at ho
              have n0_ := Aside0.mk (Kd.R_after (ok := (fun k_ => some k_ ≠ (.slice Ao97 t240.length co97 : Value).ownBlock ∧ some k_ ≠ (u236002 : Value).ownBlock)) (by (with_reducible repeat (first | apply Kd.R_alloc | apply Kd.R_drewN | apply Kd.R_drew)); exact Kd.R_mono HO_15.out (fun _ hk => ⟨⟨hk.1, hk.2.1⟩, hk.2.2⟩)) hg hat)
              have n1_ := Aside0.mk (Kd.R_after (ok := (fun k_ => some k_ ≠ (.slice (some ad255) t236.length co103 : Value).ownBlock ∧ some k_ ≠ (u236002 : Value).ownBlock)) (by (with_reducible repeat (first | apply Kd.R_alloc | apply Kd.R_drewN | apply Kd.R_drew)); exact Kd.R_mono HO_17.out (fun _ hk => ⟨⟨hk.1, hk.2.1⟩, hk.2.2⟩)) hg hat)
              have n2_ := Aside0.mk (Kd.R_after (ok := (fun k_ => some k_ ≠ (.slice (some ad255) t236.length co103 : Value).ownBlock ∧ some k_ ≠ (.slice Ao97 t240.length co97 : Value).ownBlock)) (by (with_reducible repeat (first | apply Kd.R_alloc | apply Kd.R_drewN | apply Kd.R_drew)); exact Kd.R_mono HO_236002.out (fun _ hk => ⟨⟨hk.1, hk.2.1⟩, hk.2.2⟩)) hg hat)
              have n3_ := Aside0.mk (blk_grown (g := gb215) (o := .cells #[.int .i64 a1_0, .int .i64 a1_1, .int .i64 a1_2] 23 (0, 0)) (by (with_reducible repeat (first | refine blk_drewN ?_ _ | refine blk_drew ?_ | refine blk_alloc ?_ _)); exact BK215.out) hg (Kd.R_ne HO_236003.out BK215.out (by decide)))
              have n4_ := Aside0.mk (blk_grown (g := gb216) (o := .cells #[.int .i64 a3_0, .int .i64 a3_1, .int .i64 a3_2] 23 (0, 0)) (by (with_reducible repeat (first | refine blk_drewN ?_ _ | refine blk_drew ?_ | refine blk_alloc ?_ _)); exact BK216.out) hg (Kd.R_ne HO_236003.out BK216.out (by decide)))
              have n5_ := Aside0.mk (blk_grown (g := gb217) (o := .cells #[.bool false, .bool false, .slice none 0 0, .slice none 0 0] 34 (0, 0)) (by (with_reducible repeat (first | refine blk_drewN ?_ _ | refine blk_drew ?_ | refine blk_alloc ?_ _)); exact BK217.out) hg (Kd.R_ne HO_236003.out BK217.out (by decide)))
              have n6_ := Aside0.mk (blk_grown (g := gb227) (o := .cells #[.string t221, .int .i64 t222, .int .u32 t223, .int .u8 t224, .int .i64 t225] 60 (0, 0)) (by (with_reducible repeat (first | refine blk_drewN ?_ _ | refine blk_drew ?_ | refine blk_alloc ?_ _)); exact BK227.out) hg (Kd.R_ne HO_236003.out BK227.out (by decide)))
              have n7_ := Aside0.mk (blk_grown (g := gb234) (o := .cells #[.string t228, .int .i64 t229, .int .u32 t230, .int .u8 t231, .int .i64 t232] 60 (0, 0)) (by (with_reducible repeat (first | refine blk_drewN ?_ _ | refine blk_drew ?_ | refine blk_alloc ?_ _)); exact BK234.out) hg (Kd.R_ne HO_236003.out BK234.out (by decide)))
              have n8_ := Aside0.mk (blk_grown (g := gb235) (o := .cells #[.bool (eqT23 a1_0 a3_0 a1_1 a3_1 a1_2 a3_2), .bool (t224 == t231), u236002, u236003] 34 (0, 0)) (by (with_reducible repeat (first | refine blk_drewN ?_ _ | refine blk_drew ?_ | refine blk_alloc ?_ _)); exact BK235.out) hg (Kd.R_ne HO_236003.out BK235.out (by decide)))
              have n9_ := Aside0.mk (hb)
              have n10_ := Aside0.mk (ho)
              clear HO_15
              clear HO_17
              clear HO_236002
              clear BK215
              clear BK216
              clear BK217
              clear BK227
              clear BK234
              clear BK235
              clear HB
              clear HO_236003
              have HO_15 := n0_
              have HO_17 := n1_
              have HO_236002 := n2_
              have BK215 := n3_
              have BK216 := n4_
              have BK217 := n5_
              have BK227 := n6_
              have BK234 := n7_
              have BK235 := n8_
              have HB := n9_
              have HO260 := n10_
              clear n0_ n1_ n2_ n3_ n4_ n5_ n6_ n7_ n8_ n9_ n10_
              clear ho hb hg hat
              obtain ⟨Ao106, co106, eo106⟩ := Kd.R_slice HO260.out
              (first | subst eo106 | (injection eo106 with f1_ f2_ f3_; have f4_ := f1_.symm; have f5_ := f3_.symm; clear f1_ f2_ f3_; subst f4_; subst f5_))
              refine hK.out _ _ ?_
              clear hK K
              refine norm_ (a' := ?_) ?_ ?_
              rotate_left
              ·show Act.put _ (some 136) _ = _
               simp only [Act.put, List.setIfInBounds_toArray, List.set_cons_zero, List.set_cons_succ, i64_w, i32_w]
               rfl
              refine pure_ (i := 8) (N := some 137) (v := ?_) (a' := ?_) #[true, true, true, true, true, true, true, true, true, false] rfl rfl (any_of HT_.out (by kernel_rfl)) (fun _ _ _ h => h) (Or.inl ⟨by rfl, ?_⟩) ?_ ?_
              rotate_left
              ·intro w'
               go_simp
               with_reducible rfl
              rotate_left
              ·simp only [Act.put, List.setIfInBounds_toArray, List.set_cons_zero, List.set_cons_succ, i64_w, i32_w]
               rfl
              refine last_ (i := 9) (N := none) #[true, true, true, true, true, true, true, true, true, true] rfl rfl (one_of HT_.out (by kernel_rfl)) (by decide) (fun K hK => ?_)
              have hs107 : w105.cell? ⟨gb235, 3, none⟩ = some (u236003) := (blk_cell BK235.out 3).trans rfl
              have hfs107 := blk_frozen BK235.out 3
              have hns107_0 := NB215_235.out
              have hns107_1 := NB216_235.out
              have hns107_2 := NB217_235.out
              have hns107_3 := NB227_235.out
              have hns107_4 := NB234_235.out
              have hms107_0 := NB235_215.out
              have hms107_1 := NB235_216.out
              have hms107_2 := NB235_217.out
              have hms107_3 := NB235_227.out
              have hms107_4 := NB235_234.out
              refine skip_ (w1 := ?_) (by rfl) rfl ?_ ?_
              rotate_left
              ·go_simp
               rfl
              refine hK.out _ _ ?_
              clear hK K
              refine done_ (done_of HT_.out (by kernel_rfl)) ?_
              try go_wp2
              go_roundg k3
              case measure => have := HJ4.out; have := HK2.out; have := HK3.out; omega
              case rel => exact ⟨(wrap64 (x21_3 + 1)), (y258), (.slice Ao106 y258.length co106), (by first | rfl | (simp; done) | (simp [*]; done)), H', ⟨by have := HJ4.out; have := HK2.out; have := HK3.out; omega⟩, ⟨by (with_reducible repeat (first | apply Kd.R_alloc | apply Kd.R_drewN | apply Kd.R_drew)); exact Kd.R_mono (Kd.R_far (p := ⟨gb235, 3, none⟩) (Kd.R_types HO_15.out BK235.out (by decide)) (fun _ hk => hk.2) (.slice Ao106 y258.length co106)) (fun _ hk => ⟨hk.1.1.1, ⟨hk.1.1.2, hk.1.2⟩⟩)⟩, ⟨by (with_reducible repeat (first | apply Kd.R_alloc | apply Kd.R_drewN | apply Kd.R_drew)); exact Kd.R_mono (Kd.R_far (p := ⟨gb235, 3, none⟩) (Kd.R_types HO_17.out BK235.out (by decide)) (fun _ hk => hk.2) (.slice Ao106 y258.length co106)) (fun _ hk => ⟨hk.1.1.1, ⟨hk.1.1.2, hk.1.2⟩⟩)⟩, ⟨by (with_reducible repeat (first | apply Kd.R_alloc | apply Kd.R_drewN | apply Kd.R_drew)); exact Kd.R_mono (Kd.R_far (p := ⟨gb235, 3, none⟩) (Kd.R_types HO_236002.out BK235.out (by decide)) (fun _ hk => hk.2) (.slice Ao106 y258.length co106)) (fun _ hk => ⟨hk.1.1.1, ⟨hk.1.1.2, hk.1.2⟩⟩)⟩, ⟨by (with_reducible repeat (first | apply Kd.R_alloc | apply Kd.R_drewN | apply Kd.R_drew)); exact Kd.R_mono (Kd.R_far (p := ⟨gb235, 3, none⟩) (Kd.R_types HO260.out BK235.out (by decide)) (fun _ hk => hk.2) (.slice Ao106 y258.length co106)) (fun _ hk => ⟨hk.1.1, ⟨hk.1.2.1, hk.1.2.2⟩⟩)⟩, ⟨by (with_reducible repeat (first | refine blk_drewN ?_ _ | refine blk_drew ?_ | refine blk_alloc ?_ _)); refine blk_far ?_ NB215_235.out _; (with_reducible repeat (first | refine blk_drewN ?_ _ | refine blk_drew ?_ | refine blk_alloc ?_ _)); exact BK215.out⟩, ⟨by (with_reducible repeat (first | refine blk_drewN ?_ _ | refine blk_drew ?_ | refine blk_alloc ?_ _)); refine blk_far ?_ NB216_235.out _; (with_reducible repeat (first | refine blk_drewN ?_ _ | refine blk_drew ?_ | refine blk_alloc ?_ _)); exact BK216.out⟩, ⟨by (with_reducible repeat (first | refine blk_drewN ?_ _ | refine blk_drew ?_ | refine blk_alloc ?_ _)); refine blk_far ?_ NB217_235.out _; (with_reducible repeat (first | refine blk_drewN ?_ _ | refine blk_drew ?_ | refine blk_alloc ?_ _)); exact BK217.out⟩, ⟨by (with_reducible repeat (first | refine blk_drewN ?_ _ | refine blk_drew ?_ | refine blk_alloc ?_ _)); refine blk_far ?_ NB227_235.out _; (with_reducible repeat (first | refine blk_drewN ?_ _ | refine blk_drew ?_ | refine blk_alloc ?_ _)); exact BK227.out⟩, ⟨by (with_reducible repeat (first | refine blk_drewN ?_ _ | refine blk_drew ?_ | refine blk_alloc ?_ _)); refine blk_far ?_ NB234_235.out _; (with_reducible repeat (first | refine blk_drewN ?_ _ | refine blk_drew ?_ | refine blk_alloc ?_ _)); exact BK234.out⟩, ⟨by (with_reducible repeat (first | refine blk_drewN ?_ _ | refine blk_drew ?_ | refine blk_alloc ?_ _)); refine blk_put (cs := #[.bool (eqT23 a1_0 a3_0 a1_1 a3_1 a1_2 a3_2), .bool (t224 == t231), u236002, u236003]) ?_ 3 _ rfl; (with_reducible repeat (first | refine blk_drewN ?_ _ | refine blk_drew ?_ | refine blk_alloc ?_ _)); exact BK235.out⟩, ⟨by repeat (first | (with_reducible first | exact HB.out | apply below_alloc | apply pw_below_drewN | apply below_drew1 | refine below_set ?_ GE215.out | refine below_set ?_ GE216.out | refine below_set ?_ GE217.out | refine below_set ?_ GE227.out | refine below_set ?_ GE234.out | refine below_set ?_ GE235.out) | exact HB.out)⟩⟩
             ·rw [if_neg c102] at H
              exact absurd H (by simp)
            ·rw [if_neg c101] at H
             have c101b0 : decide (t256 < 0) = false := decide_eq_false c101
             clear c101
             have H' := Aside0.mk H
             clear H
             obtain ⟨Ao108, co108, eo108⟩ := Kd.R_slice HO_15.out
             subst eo108
             have p255 : 0 ≤ (x21_3 : Int) := of_decide_eq_true (by first | (with_reducible assumption) | assumption)
             have q255 : x21_3 < (t236.length : Int) := of_decide_eq_true (by first | (with_reducible assumption) | assumption)
             obtain ⟨ad255, e255, hx255_0⟩ := Kd.at_string (Kd.R_reads' HO_15.out).2.2 x21_3 p255 q255
             cases e255
             replace p255 := eq_true p255
             replace q255 := eq_true q255
             go_wp2_with (first | ((with_reducible refine gate_callee (f := 25) rfl ?_); refine goesL_ (some 127) rfl rfl Tryd.func25 (by kernel_rfl) rfl #[.slice Ao97 t240.length co97, .string (rdOf ByteArray.empty t236 x21_3)] rfl (by (try simp only [List.map_toArray, List.map_cons, List.map_nil]); first | done | rfl | (simp only [List.length_drop, List.length_take]; rfl)) ?_; (with_reducible refine (gambrelref22_at.calls k3 _ _ t240 (rdOf ByteArray.empty t236 x21_3) t256 _ ?side1 ?side2 A100.out).mono ?_); (case side1 => repeat (first | exact (Kd.R_reads' HO_17.out).2.2 | (with_reducible refine Kd.C_alloc ?_ _) | (with_reducible refine Kd.C_drewN ?_ _) | (with_reducible refine Kd.C_drew ?_))); (case side2 => exact (Kd.R_reads' HO_17.out).2.1); rintro e w' ⟨rfl, ⟨nd, rfl⟩⟩; refine ⟨_, rfl, ?_⟩))
             go_roundg k3
             case measure => have := HJ4.out; have := HK2.out; have := HK3.out; omega
             case rel => exact ⟨(wrap64 (x21_3 + 1)), (x236003_3), (u236003), (by first | rfl | (simp; done) | (simp [*]; done)), H', ⟨by have := HJ4.out; have := HK2.out; have := HK3.out; omega⟩, ⟨by (with_reducible repeat (first | apply Kd.R_alloc | apply Kd.R_drewN | apply Kd.R_drew)); exact HO_15.out⟩, ⟨by (with_reducible repeat (first | apply Kd.R_alloc | apply Kd.R_drewN | apply Kd.R_drew)); exact HO_17.out⟩, ⟨by (with_reducible repeat (first | apply Kd.R_alloc | apply Kd.R_drewN | apply Kd.R_drew)); exact HO_236002.out⟩, ⟨by (with_reducible repeat (first | apply Kd.R_alloc | apply Kd.R_drewN | apply Kd.R_drew)); exact HO_236003.out⟩, ⟨by (with_reducible repeat (first | refine blk_drewN ?_ _ | refine blk_drew ?_ | refine blk_alloc ?_ _)); exact BK215.out⟩, ⟨by (with_reducible repeat (first | refine blk_drewN ?_ _ | refine blk_drew ?_ | refine blk_alloc ?_ _)); exact BK216.out⟩, ⟨by (with_reducible repeat (first | refine blk_drewN ?_ _ | refine blk_drew ?_ | refine blk_alloc ?_ _)); exact BK217.out⟩, ⟨by (with_reducible repeat (first | refine blk_drewN ?_ _ | refine blk_drew ?_ | refine blk_alloc ?_ _)); exact BK227.out⟩, ⟨by (with_reducible repeat (first | refine blk_drewN ?_ _ | refine blk_drew ?_ | refine blk_alloc ?_ _)); exact BK234.out⟩, ⟨by (with_reducible repeat (first | refine blk_drewN ?_ _ | refine blk_drew ?_ | refine blk_alloc ?_ _)); exact BK235.out⟩, ⟨by repeat (first | (with_reducible first | exact HB.out | apply below_alloc | apply pw_below_drewN | apply below_drew1 | refine below_set ?_ GE215.out | refine below_set ?_ GE216.out | refine below_set ?_ GE217.out | refine below_set ?_ GE227.out | refine below_set ?_ GE234.out | refine below_set ?_ GE235.out) | exact HB.out)⟩⟩
           ·rw [if_neg c99] at H
            exact absurd H (by simp)
          ·rw [if_neg c98] at H
           have c98b0 : decide (x21_3 < (t236.length : Int)) = false := decide_eq_false c98
           clear c98
           simp only [Option.some.injEq, Prod.mk.injEq] at H
           obtain ⟨rfl, rfl, rfl, rfl, rfl⟩ := H
           obtain ⟨Ao109, co109, eo109⟩ := Kd.R_slice HO_15.out
           subst eo109
           have hnb110 := NB235_215.out
           have hnc110 := NB215_235.out
           have hnb111 := NB235_216.out
           have hnc111 := NB216_235.out
           have hnb112 := NB235_217.out
           have hnc112 := NB217_235.out
           have hnb113 := NB235_227.out
           have hnc113 := NB227_235.out
           have hnb114 := NB235_234.out
           have hnc114 := NB234_235.out
           have hcz115_0 : wr.cell? ⟨gb235, 0, none⟩ = some (.bool (eqT23 a1_0 a3_0 a1_1 a3_1 a1_2 a3_2)) := (blk_cell BK235.out 0).trans rfl
           have hcz115_1 : wr.cell? ⟨gb235, 1, none⟩ = some (.bool (t224 == t231)) := (blk_cell BK235.out 1).trans rfl
           have hcz115_2 : wr.cell? ⟨gb235, 2, none⟩ = some (u236002) := (blk_cell BK235.out 2).trans rfl
           have hcz115_3 : wr.cell? ⟨gb235, 3, none⟩ = some (u236003) := (blk_cell BK235.out 3).trans rfl
           have hfz115_0 := blk_frozen BK235.out 0
           have hfz115_1 := blk_frozen BK235.out 1
           have hfz115_2 := blk_frozen BK235.out 2
           have hfz115_3 := blk_frozen BK235.out 3
           have hnb116 := NB217_215.out
           have hnc116 := NB215_217.out
           have hnb117 := NB217_216.out
           have hnc117 := NB216_217.out
           have hnb118 := NB217_227.out
           have hnc118 := NB227_217.out
           have hnb119 := NB217_234.out
           have hnc119 := NB234_217.out
           have hcz120_0 : wr.cell? ⟨gb217, 0, none⟩ = some (.bool false) := (blk_cell BK217.out 0).trans rfl
           have hcz120_1 : wr.cell? ⟨gb217, 1, none⟩ = some (.bool false) := (blk_cell BK217.out 1).trans rfl
           have hcz120_2 : wr.cell? ⟨gb217, 2, none⟩ = some (.slice none 0 0) := (blk_cell BK217.out 2).trans rfl
           have hcz120_3 : wr.cell? ⟨gb217, 3, none⟩ = some (.slice none 0 0) := (blk_cell BK217.out 3).trans rfl
           have hfz120_0 := blk_frozen BK217.out 0
           have hfz120_1 := blk_frozen BK217.out 1
           have hfz120_2 := blk_frozen BK217.out 2
           have hfz120_3 := blk_frozen BK217.out 3
           obtain ⟨Ao121, co121, eo121⟩ := Kd.R_slice HO_236002.out
           subst eo121
           obtain ⟨Ao122, co122, eo122⟩ := Kd.R_slice HO_236003.out
           subst eo122
           go_wp2
           refine bodyPost_ret (results_ct rfl _ _ gb217 34 #[.bool (eqT23 a1_0 a3_0 a1_1 a3_1 a1_2 a3_2), .bool (t224 == t231), .slice Ao121 x236002_2.length co121, .slice Ao122 x236003_3.length co122] (0, 0) _ rfl (by (with_reducible repeat (first | refine blk_drewN ?_ _ | refine blk_drew ?_ | refine blk_alloc ?_ _)); refine blk_put (cs := #[.bool (eqT23 a1_0 a3_0 a1_1 a3_1 a1_2 a3_2), .bool (t224 == t231), .slice Ao121 x236002_2.length co121, .slice none 0 0]) ?_ 3 _ rfl; (with_reducible repeat (first | refine blk_drewN ?_ _ | refine blk_drew ?_ | refine blk_alloc ?_ _)); refine blk_put (cs := #[.bool (eqT23 a1_0 a3_0 a1_1 a3_1 a1_2 a3_2), .bool (t224 == t231), .slice none 0 0, .slice none 0 0]) ?_ 2 _ rfl; (with_reducible repeat (first | refine blk_drewN ?_ _ | refine blk_drew ?_ | refine blk_alloc ?_ _)); refine blk_put (cs := #[.bool (eqT23 a1_0 a3_0 a1_1 a3_1 a1_2 a3_2), .bool false, .slice none 0 0, .slice none 0 0]) ?_ 1 _ rfl; (with_reducible repeat (first | refine blk_drewN ?_ _ | refine blk_drew ?_ | refine blk_alloc ?_ _)); refine blk_put (cs := #[.bool false, .bool false, .slice none 0 0, .slice none 0 0]) ?_ 0 _ rfl; (with_reducible repeat (first | refine blk_drewN ?_ _ | refine blk_drew ?_ | refine blk_alloc ?_ _)); exact BK217.out) Tryd.underlying34 rfl (by kernel_rfl)) rfl ?_
           exact ⟨_, _, by first | rfl | (simp [errW_none, errW_some] <;> rfl) | (simp [*, errW_none, errW_some] <;> rfl), by (with_reducible repeat (first | apply Kd.R_alloc | apply Kd.R_drewN | apply Kd.R_drew)); exact Kd.R_mono (Kd.R_far (p := ⟨gb217, 3, none⟩) (Kd.R_far (p := ⟨gb217, 2, none⟩) (Kd.R_far (p := ⟨gb217, 1, none⟩) (Kd.R_far (p := ⟨gb217, 0, none⟩) (Kd.R_types HO_236002.out BK217.out (by decide)) (fun _ hk => hk.2) (.bool (eqT23 a1_0 a3_0 a1_1 a3_1 a1_2 a3_2))) (fun _ hk => hk.2) (.bool (t224 == t231))) (fun _ hk => hk.2) (.slice Ao121 x236002_2.length co121)) (fun _ hk => hk.2) (.slice Ao122 x236003_3.length co122)) (fun _ hk => hk.1.2.2), by (with_reducible repeat (first | apply Kd.R_alloc | apply Kd.R_drewN | apply Kd.R_drew)); exact Kd.R_mono (Kd.R_far (p := ⟨gb217, 3, none⟩) (Kd.R_far (p := ⟨gb217, 2, none⟩) (Kd.R_far (p := ⟨gb217, 1, none⟩) (Kd.R_far (p := ⟨gb217, 0, none⟩) (Kd.R_types HO_236003.out BK217.out (by decide)) (fun _ hk => hk.2) (.bool (eqT23 a1_0 a3_0 a1_1 a3_1 a1_2 a3_2))) (fun _ hk => hk.2) (.bool (t224 == t231))) (fun _ hk => hk.2) (.slice Ao121 x236002_2.length co121)) (fun _ hk => hk.2) (.slice Ao122 x236003_3.length co122)) (fun _ hk => hk.1.2.2), by repeat (first | (with_reducible first | exact HB.out | apply below_alloc | apply pw_below_drewN | apply below_drew1 | refine below_set ?_ GE215.out | refine below_set ?_ GE216.out | refine below_set ?_ GE217.out | refine below_set ?_ GE227.out | refine below_set ?_ GE234.out | refine below_set ?_ GE235.out) | exact HB.out)⟩
    ·exact absurd hx_.out c40

end Go.Proofs.YtlapjnaaihpeeaaDoor.XPl
