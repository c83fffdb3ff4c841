-- WRITTEN BY this work's own program (wip/tools/xprint.py). Not trusted: Lean checks it.
import Derived.Test.YtlapjnaaihpeeaaDoorXPl0
import Derived.Test.YtlapjnaaihpeeaaDoorXPl5
import Derived.Test.YtlapjnaaihpeeaaDoorXPl13
import Derived.Test.YtlapjnaaihpeeaaDoorXPl15
import Derived.Test.YtlapjnaaihpeeaaDoorGplan_Of
namespace Go.Proofs.YtlapjnaaihpeeaaDoor.XPl
open Go.RowKit Go.Proofs.YtlapjnaaihpeeaaDoorW.PrintWords Go.Proofs.YtlapjnaaihpeeaaDoorW.PrintLast Go.Proofs.YtlapjnaaihpeeaaDoorW.PrintMore
attribute [local go_sem] max2_int min2_int max_two min_two max_three min_three max_four min_four   -- for this text's walks alone
set_option linter.unusedVariables false
set_option linter.unusedSimpArgs false

/-! ### gambrellaw22_PlanBack: function 6 -/
def gambrellaw22_PlanBack.f (k : Nat) (a0_0 : Int) (a0_1 : Int) (a0_2 : Int) (a1_0 : Int) (a1_1 : Int) (a1_2 : Int) : Option (Bool) := (gambrellaw22_awake.f k).bind fun t407 => ((gambrelref09_Some.f a0_0 a0_1 a0_2).bind fun bt408 => ((gambrelref09_Some.f a1_0 a1_1 a1_2).bind fun bt412 => ((gambrellaw22_states.f k bt408.1 bt408.2.1 bt408.2.2 15 0).bind fun t416 => ((plan_Of.f k (⟨#[97, 98, 99]⟩ : ByteArray) bt408.1 bt408.2.1 bt408.2.2 t416 bt412.1 bt412.2.1 bt412.2.2).bind fun bt419 => ((gambrellaw22_states.f k bt412.1 bt412.2.1 bt412.2.2 15 0).bind fun t429 => ((plan_Of.f k (⟨#[97, 98, 99]⟩ : ByteArray) bt412.1 bt412.2.1 bt412.2.2 t429 bt408.1 bt408.2.1 bt408.2.2).bind fun bt432 => (if t407 = true then (if bt419.2.2.2.2 = 0 then (if bt432.2.2.2.2 = 0 then ((gambrelref15_Strings.f k bt419.2.2.1 bt432.2.2.2.1).bind fun t442 => (if t442 = true then ((gambrelref15_Strings.f k bt419.2.2.2.1 bt432.2.2.1).bind fun t443 => (if t443 = true then (if (bt419.2.1 == bt432.2.1) = true then (some (bt419.1 == bt432.1)) else (some false)) else (some false))) else (some false))) else (some false)) else (some false)) else (some false))))))))
theorem gambrellaw22_PlanBack.mono : ∀ a0 a1 a2 a3 a4 a5 k, LeO (gambrellaw22_PlanBack.f k a0 a1 a2 a3 a4 a5) (gambrellaw22_PlanBack.f (k + 1) a0 a1 a2 a3 a4 a5) := by
 intro a0 a1 a2 a3 a4 a5 k
 unfold gambrellaw22_PlanBack.f
 repeat' first
   | (with_reducible exact gambrellaw22_awake.mono _)
   | (with_reducible exact gambrellaw22_states.mono _ _ _ _ _ _)
   | (with_reducible exact gambrelref15_Strings.mono _ _ _)
   | (with_reducible exact plan_Of.mono _ _ _ _ _ _ _ _ _)
   | (with_reducible exact LeO.refl _)
   | (with_reducible exact LeO.none _)
   | (with_reducible refine LeO.ite ?_ ?_)
   | (with_reducible refine LeO.bind ?_ (fun _ => ?_))
   | exact gambrellaw22_awake.mono _
   | exact gambrellaw22_states.mono _ _ _ _ _ _
   | exact gambrelref15_Strings.mono _ _ _
   | exact plan_Of.mono _ _ _ _ _ _ _ _ _
   | exact LeO.none _
   | refine LeO.ite ?_ ?_
   | refine LeO.bind ?_ (fun _ => ?_)
def gambrellaw22_PlanBack.T4 : Bool × List (List Nat × List Nat) := (true, [([], []), ([], []), ([1], [1]), ([], []), ([0, 2, 3, 2], [0, 2, 3]), ([4], [4]), ([5], [5]), ([5], [5]), ([], []), ([8, 6, 4, 0, 1, 2, 3, 4, 5, 6, 8], [6, 8]), ([7, 9, 0, 1, 2, 3, 4, 5, 6, 7, 8, 9], [7])])
def gambrellaw22_PlanBack.B4 : List Nat := [0, 0, 2, 0, 15, 31, 63, 63, 0, 383, 1023]
theorem gambrellaw22_PlanBack.tab4 : rtab .any (opsOf Tryd.f6 4) = gambrellaw22_PlanBack.T4 := by kernel_rfl
theorem gambrellaw22_PlanBack.bits4 : waitsOk gambrellaw22_PlanBack.T4.2 gambrellaw22_PlanBack.B4 = true := by kernel_rfl
def gambrellaw22_PlanBack.T5 : Bool × List (List Nat × List Nat) := (true, [([], []), ([], []), ([1], [1]), ([], []), ([0, 2, 3, 2], [0, 2, 3]), ([4], [4]), ([5], [5]), ([5], [5]), ([], []), ([8, 6, 4, 0, 1, 2, 3, 4, 5, 6, 8], [6, 8]), ([7, 9, 0, 1, 2, 3, 4, 5, 6, 7, 8, 9], [7])])
def gambrellaw22_PlanBack.B5 : List Nat := [0, 0, 2, 0, 15, 31, 63, 63, 0, 383, 1023]
theorem gambrellaw22_PlanBack.tab5 : rtab .any (opsOf Tryd.f6 5) = gambrellaw22_PlanBack.T5 := by kernel_rfl
theorem gambrellaw22_PlanBack.bits5 : waitsOk gambrellaw22_PlanBack.T5.2 gambrellaw22_PlanBack.B5 = true := by kernel_rfl
set_option maxHeartbeats 8000000 in
set_option maxRecDepth 100000 in
theorem gambrellaw22_PlanBack.calls (k : Nat) (a0_0 : Int) (a0_1 : Int) (a0_2 : Int) (a1_0 : Int) (a1_1 : Int) (a1_2 : Int) (r : Bool) (w : World) (hr_ : Aside0 (r = true)) (h : gambrellaw22_PlanBack.f k a0_0 a0_1 a0_2 a1_0 a1_1 a1_2 = some r) :
  Calls Tryd.prog 6 #[.agg #[.int .u8 a0_0, .int .u8 a0_1, .int .u8 a0_2], .agg #[.int .u8 a1_0, .int .u8 a1_1, .int .u8 a1_2]] w fun e w' => e = .returned (.bool r) ∧ Below w.heap.size w w' := by
 have hu39 := Tryd.underlying39
 have hu23 := Tryd.underlying23
 have hu30 := Tryd.underlying30
 have HB := Aside0.mk (Below.refl w.heap.size w)
 have H : ((gambrellaw22_awake.f k).bind fun t407 => ((gambrelref09_Some.f a0_0 a0_1 a0_2).bind fun bt408 => ((gambrelref09_Some.f a1_0 a1_1 a1_2).bind fun bt412 => ((gambrellaw22_states.f k bt408.1 bt408.2.1 bt408.2.2 15 0).bind fun t416 => ((plan_Of.f k (⟨#[97, 98, 99]⟩ : ByteArray) bt408.1 bt408.2.1 bt408.2.2 t416 bt412.1 bt412.2.1 bt412.2.2).bind fun bt419 => ((gambrellaw22_states.f k bt412.1 bt412.2.1 bt412.2.2 15 0).bind fun t429 => ((plan_Of.f k (⟨#[97, 98, 99]⟩ : ByteArray) bt412.1 bt412.2.1 bt412.2.2 t429 bt408.1 bt408.2.1 bt408.2.2).bind fun bt432 => (if t407 = true then (if bt419.2.2.2.2 = 0 then (if bt432.2.2.2.2 = 0 then ((gambrelref15_Strings.f k bt419.2.2.1 bt432.2.2.2.1).bind fun t442 => (if t442 = true then ((gambrelref15_Strings.f k bt419.2.2.2.1 bt432.2.2.1).bind fun t443 => (if t443 = true then (if (bt419.2.1 == bt432.2.1) = true then (some (bt419.1 == bt432.1)) else (some false)) else (some false))) else (some false))) else (some false)) else (some false)) else (some false))))))))) = some r := h
 clear h
 replace H := Option.bind_eq_some_iff.mp H
 obtain ⟨t407, A30, H⟩ := H
 replace H : ((gambrelref09_Some.f a0_0 a0_1 a0_2).bind fun bt408 => ((gambrelref09_Some.f a1_0 a1_1 a1_2).bind fun bt412 => ((gambrellaw22_states.f k bt408.1 bt408.2.1 bt408.2.2 15 0).bind fun t416 => ((plan_Of.f k (⟨#[97, 98, 99]⟩ : ByteArray) bt408.1 bt408.2.1 bt408.2.2 t416 bt412.1 bt412.2.1 bt412.2.2).bind fun bt419 => ((gambrellaw22_states.f k bt412.1 bt412.2.1 bt412.2.2 15 0).bind fun t429 => ((plan_Of.f k (⟨#[97, 98, 99]⟩ : ByteArray) bt412.1 bt412.2.1 bt412.2.2 t429 bt408.1 bt408.2.1 bt408.2.2).bind fun bt432 => (if t407 = true then (if bt419.2.2.2.2 = 0 then (if bt432.2.2.2.2 = 0 then ((gambrelref15_Strings.f k bt419.2.2.1 bt432.2.2.2.1).bind fun t442 => (if t442 = true then ((gambrelref15_Strings.f k bt419.2.2.2.1 bt432.2.2.1).bind fun t443 => (if t443 = true then (if (bt419.2.1 == bt432.2.1) = true then (some (bt419.1 == bt432.1)) else (some false)) else (some false))) else (some false))) else (some false)) else (some false)) else (some false)))))))) = some r := H
 have A3 := Aside0.mk A30
 clear A30
 replace H := Option.bind_eq_some_iff.mp H
 obtain ⟨⟨t408, t409, t410⟩, A40, H⟩ := H
 replace H : ((gambrelref09_Some.f a1_0 a1_1 a1_2).bind fun bt412 => ((gambrellaw22_states.f k t408 t409 t410 15 0).bind fun t416 => ((plan_Of.f k (⟨#[97, 98, 99]⟩ : ByteArray) t408 t409 t410 t416 bt412.1 bt412.2.1 bt412.2.2).bind fun bt419 => ((gambrellaw22_states.f k bt412.1 bt412.2.1 bt412.2.2 15 0).bind fun t429 => ((plan_Of.f k (⟨#[97, 98, 99]⟩ : ByteArray) bt412.1 bt412.2.1 bt412.2.2 t429 t408 t409 t410).bind fun bt432 => (if t407 = true then (if bt419.2.2.2.2 = 0 then (if bt432.2.2.2.2 = 0 then ((gambrelref15_Strings.f k bt419.2.2.1 bt432.2.2.2.1).bind fun t442 => (if t442 = true then ((gambrelref15_Strings.f k bt419.2.2.2.1 bt432.2.2.1).bind fun t443 => (if t443 = true then (if (bt419.2.1 == bt432.2.1) = true then (some (bt419.1 == bt432.1)) else (some false)) else (some false))) else (some false))) else (some false)) else (some false)) else (some false))))))) = some r := H
 have A4 := Aside0.mk A40
 clear A40
 replace H := Option.bind_eq_some_iff.mp H
 obtain ⟨⟨t412, t413, t414⟩, A50, H⟩ := H
 replace H : ((gambrellaw22_states.f k t408 t409 t410 15 0).bind fun t416 => ((plan_Of.f k (⟨#[97, 98, 99]⟩ : ByteArray) t408 t409 t410 t416 t412 t413 t414).bind fun bt419 => ((gambrellaw22_states.f k t412 t413 t414 15 0).bind fun t429 => ((plan_Of.f k (⟨#[97, 98, 99]⟩ : ByteArray) t412 t413 t414 t429 t408 t409 t410).bind fun bt432 => (if t407 = true then (if bt419.2.2.2.2 = 0 then (if bt432.2.2.2.2 = 0 then ((gambrelref15_Strings.f k bt419.2.2.1 bt432.2.2.2.1).bind fun t442 => (if t442 = true then ((gambrelref15_Strings.f k bt419.2.2.2.1 bt432.2.2.1).bind fun t443 => (if t443 = true then (if (bt419.2.1 == bt432.2.1) = true then (some (bt419.1 == bt432.1)) else (some false)) else (some false))) else (some false))) else (some false)) else (some false)) else (some false)))))) = some r := H
 have A5 := Aside0.mk A50
 clear A50
 replace H := Option.bind_eq_some_iff.mp H
 obtain ⟨t416, A60, H⟩ := H
 replace H : ((plan_Of.f k (⟨#[97, 98, 99]⟩ : ByteArray) t408 t409 t410 t416 t412 t413 t414).bind fun bt419 => ((gambrellaw22_states.f k t412 t413 t414 15 0).bind fun t429 => ((plan_Of.f k (⟨#[97, 98, 99]⟩ : ByteArray) t412 t413 t414 t429 t408 t409 t410).bind fun bt432 => (if t407 = true then (if bt419.2.2.2.2 = 0 then (if bt432.2.2.2.2 = 0 then ((gambrelref15_Strings.f k bt419.2.2.1 bt432.2.2.2.1).bind fun t442 => (if t442 = true then ((gambrelref15_Strings.f k bt419.2.2.2.1 bt432.2.2.1).bind fun t443 => (if t443 = true then (if (bt419.2.1 == bt432.2.1) = true then (some (bt419.1 == bt432.1)) else (some false)) else (some false))) else (some false))) else (some false)) else (some false)) else (some false))))) = some r := H
 have A6 := Aside0.mk A60
 clear A60
 replace H := Option.bind_eq_some_iff.mp H
 obtain ⟨⟨t419, t420, t421, t424, t427⟩, A70, H⟩ := H
 replace H : ((gambrellaw22_states.f k t412 t413 t414 15 0).bind fun t429 => ((plan_Of.f k (⟨#[97, 98, 99]⟩ : ByteArray) t412 t413 t414 t429 t408 t409 t410).bind fun bt432 => (if t407 = true then (if t427 = 0 then (if bt432.2.2.2.2 = 0 then ((gambrelref15_Strings.f k t421 bt432.2.2.2.1).bind fun t442 => (if t442 = true then ((gambrelref15_Strings.f k t424 bt432.2.2.1).bind fun t443 => (if t443 = true then (if (t420 == bt432.2.1) = true then (some (t419 == bt432.1)) else (some false)) else (some false))) else (some false))) else (some false)) else (some false)) else (some false)))) = some r := H
 have A7 := Aside0.mk A70
 clear A70
 replace H := Option.bind_eq_some_iff.mp H
 obtain ⟨t429, A80, H⟩ := H
 replace H : ((plan_Of.f k (⟨#[97, 98, 99]⟩ : ByteArray) t412 t413 t414 t429 t408 t409 t410).bind fun bt432 => (if t407 = true then (if t427 = 0 then (if bt432.2.2.2.2 = 0 then ((gambrelref15_Strings.f k t421 bt432.2.2.2.1).bind fun t442 => (if t442 = true then ((gambrelref15_Strings.f k t424 bt432.2.2.1).bind fun t443 => (if t443 = true then (if (t420 == bt432.2.1) = true then (some (t419 == bt432.1)) else (some false)) else (some false))) else (some false))) else (some false)) else (some false)) else (some false))) = some r := H
 have A8 := Aside0.mk A80
 clear A80
 replace H := Option.bind_eq_some_iff.mp H
 obtain ⟨⟨t432, t433, t434, t437, t440⟩, A90, H⟩ := H
 replace H : (if t407 = true then (if t427 = 0 then (if t440 = 0 then ((gambrelref15_Strings.f k t421 t437).bind fun t442 => (if t442 = true then ((gambrelref15_Strings.f k t424 t434).bind fun t443 => (if t443 = true then (if (t420 == t433) = true then (some (t419 == t432)) else (some false)) else (some false))) else (some false))) else (some false)) else (some false)) else (some false)) = some r := H
 have A9 := Aside0.mk A90
 clear A90
 by_cases c10 : t407 = true
 ·subst c10
  have H1 : (if t427 = 0 then (if t440 = 0 then ((gambrelref15_Strings.f k t421 t437).bind fun t442 => (if t442 = true then ((gambrelref15_Strings.f k t424 t434).bind fun t443 => (if t443 = true then (if (t420 == t433) = true then (some (t419 == t432)) else (some false)) else (some false))) else (some false))) else (some false)) else (some false)) = some r := by rw [if_pos rfl] at H; exact H
  clear H
  have H := H1
  clear H1
  by_cases c11 : t427 = 0
  ·rw [if_pos c11] at H
   have c11b0 : (t427 == 0) = true := beq_iff_eq.mpr c11
   have c11b1 : (t427 != 0) = false := bne_eq_false_iff_eq.mpr c11
   clear c11
   by_cases c12 : t440 = 0
   ·rw [if_pos c12] at H
    have c12b0 : (t440 == 0) = true := beq_iff_eq.mpr c12
    have c12b1 : (t440 != 0) = false := bne_eq_false_iff_eq.mpr c12
    clear c12
    replace H := Option.bind_eq_some_iff.mp H
    obtain ⟨t442, A130, H⟩ := H
    replace H : (if t442 = true then ((gambrelref15_Strings.f k t424 t434).bind fun t443 => (if t443 = true then (if (t420 == t433) = true then (some (t419 == t432)) else (some false)) else (some false))) else (some false)) = some r := H
    have A13 := Aside0.mk A130
    clear A130
    by_cases c14 : t442 = true
    ·subst c14
     have H1 : ((gambrelref15_Strings.f k t424 t434).bind fun t443 => (if t443 = true then (if (t420 == t433) = true then (some (t419 == t432)) else (some false)) else (some false))) = some r := by rw [if_pos rfl] at H; exact H
     clear H
     have H := H1
     clear H1
     replace H := Option.bind_eq_some_iff.mp H
     obtain ⟨t443, A150, H⟩ := H
     replace H : (if t443 = true then (if (t420 == t433) = true then (some (t419 == t432)) else (some false)) else (some false)) = some r := H
     have A15 := Aside0.mk A150
     clear A150
     by_cases c16 : t443 = true
     ·subst c16
      have H1 : (if (t420 == t433) = true then (some (t419 == t432)) else (some false)) = some r := by rw [if_pos rfl] at H; exact H
      clear H
      have H := H1
      clear H1
      by_cases c17 : (t420 == t433) = true
      ·rw [if_pos c17] at H
       have c17b0 : (t420 == t433) = true := c17
       (try (have c17b1 : decide (t420 = t433) = true := by simpa using c17))
       (try (have c17b2 : (t420 == t433) = true := by simpa using c17))
       clear c17
       obtain rfl := Option.some.inj H
       go_enter Tryd.func6, Tryd.ntmps6
       try go_wp2_with (first | ((with_reducible refine gate_dst (N := 2) rfl ?_); refine box_event ?hg (N := 2) ?hd (cs := #[.int .u8 a0_0, .int .u8 a0_1, .int .u8 a0_2]) (t := 39) ?hr ?_; (case hd => rfl); (case hg => rfl); (case hr => first | (go_simp; done) | (go_simp; rfl)); intro gb405 hg w18 hbox hb; have n0_ := Aside0.mk (below_step (by repeat (first | (with_reducible first | exact HB.out | apply below_alloc | apply pw_below_drewN | apply below_drew1) | exact HB.out)) hb); have n1_ := Aside0.mk (hbox); have n2_ := Aside0.mk ((by rw [hg]; exact (below_size (by repeat (first | (with_reducible first | exact HB.out | apply below_alloc | apply pw_below_drewN | apply below_drew1) | exact HB.out))) : w.heap.size ≤ gb405)); have n3_ := Aside0.mk ((by rw [hg]; exact (below_size (by repeat (first | (with_reducible first | exact HB.out | apply below_alloc | apply pw_below_drewN | apply below_drew1) | exact HB.out))) : w.heap.size ≤ gb405)); clear HB; have HB := n0_; have BK405 := n1_; have GW405 := n2_; have GE405 := n3_; clear n0_ n1_ n2_ n3_; clear hb hbox hg) | ((with_reducible refine gate_dst (N := 3) rfl ?_); refine box_event ?hg (N := 3) ?hd (cs := #[.int .u8 a1_0, .int .u8 a1_1, .int .u8 a1_2]) (t := 39) ?hr ?_; (case hd => rfl); (case hg => rfl); (case hr => first | (go_simp; done) | (go_simp; rfl)); intro gb406 hg w19 hbox hb; have n0_ := Aside0.mk (blk_below (g := gb405) (o := .cells #[.int .u8 a0_0, .int .u8 a0_1, .int .u8 a0_2] 39 (0, 0)) (by (with_reducible repeat (first | refine blk_drewN ?_ _ | refine blk_drew ?_ | refine blk_alloc ?_ _)); exact BK405.out) hb); have n1_ := Aside0.mk (below_step (by repeat (first | (with_reducible first | exact HB.out | apply below_alloc | apply pw_below_drewN | apply below_drew1 | refine below_set ?_ GE405.out) | exact HB.out)) hb); have n2_ := Aside0.mk (hbox); have n3_ := Aside0.mk ((by rw [hg]; exact (below_size (by repeat (first | (with_reducible first | exact HB.out | apply below_alloc | apply pw_below_drewN | apply below_drew1 | refine below_set ?_ GE405.out) | exact HB.out))) : w.heap.size ≤ gb406)); have n4_ := Aside0.mk ((by rw [hg]; exact (below_size (by repeat (first | (with_reducible first | exact HB.out | apply below_alloc | apply pw_below_drewN | apply below_drew1 | refine below_set ?_ GE405.out) | exact HB.out))) : w.heap.size ≤ gb406)); have n5_ := Aside0.mk ((by rw [hg]; exact Nat.ne_of_lt (blk_lt (g := gb405) (o := .cells #[.int .u8 a0_0, .int .u8 a0_1, .int .u8 a0_2] 39 (0, 0)) (by (with_reducible repeat (first | refine blk_drewN ?_ _ | refine blk_drew ?_ | refine blk_alloc ?_ _)); exact BK405.out)) : gb405 ≠ gb406)); have n6_ := Aside0.mk ((by rw [hg]; exact Nat.ne_of_gt (blk_lt (g := gb405) (o := .cells #[.int .u8 a0_0, .int .u8 a0_1, .int .u8 a0_2] 39 (0, 0)) (by (with_reducible repeat (first | refine blk_drewN ?_ _ | refine blk_drew ?_ | refine blk_alloc ?_ _)); exact BK405.out)) : gb406 ≠ gb405)); clear BK405; clear HB; have BK405 := n0_; have HB := n1_; have BK406 := n2_; have GW406 := n3_; have GE406 := n4_; have NB405_406 := n5_; have NB406_405 := n6_; clear n0_ n1_ n2_ n3_ n4_ n5_ n6_; clear hb hbox hg) | ((with_reducible refine gate_callee (f := 7) rfl ?_); refine goesL_ (some 12) rfl rfl Tryd.func7 (by kernel_rfl) rfl #[] rfl (by (try simp only [List.map_toArray, List.map_cons, List.map_nil]); first | done | rfl | (simp only [List.length_drop, List.length_take]; rfl)) ?_; (with_reducible refine (gambrellaw22_awake.calls k  true _ A3.out).mono ?_); rintro e w20 ⟨rfl, hb⟩; refine ⟨_, rfl, ?_⟩; have n0_ := Aside0.mk (blk_below (g := gb405) (o := .cells #[.int .u8 a0_0, .int .u8 a0_1, .int .u8 a0_2] 39 (0, 0)) (by (with_reducible repeat (first | refine blk_drewN ?_ _ | refine blk_drew ?_ | refine blk_alloc ?_ _)); exact BK405.out) hb); have n1_ := Aside0.mk (blk_below (g := gb406) (o := .cells #[.int .u8 a1_0, .int .u8 a1_1, .int .u8 a1_2] 39 (0, 0)) (by (with_reducible repeat (first | refine blk_drewN ?_ _ | refine blk_drew ?_ | refine blk_alloc ?_ _)); exact BK406.out) hb); have n2_ := Aside0.mk (below_step (by repeat (first | (with_reducible first | exact HB.out | apply below_alloc | apply pw_below_drewN | apply below_drew1 | refine below_set ?_ GE405.out | refine below_set ?_ GE406.out) | exact HB.out)) hb); clear BK405; clear BK406; clear HB; have BK405 := n0_; have BK406 := n1_; have HB := n2_; clear n0_ n1_ n2_; (try clear hb); (try clear hb2); (try clear hk); (try clear hi); have hnb21 := NB405_406.out; have hnc21 := NB406_405.out; have hcz22_0 : w20.cell? ⟨gb405, 0, none⟩ = some (.int .u8 a0_0) := (blk_cell BK405.out 0).trans rfl; have hcz22_1 : w20.cell? ⟨gb405, 1, none⟩ = some (.int .u8 a0_1) := (blk_cell BK405.out 1).trans rfl; have hcz22_2 : w20.cell? ⟨gb405, 2, none⟩ = some (.int .u8 a0_2) := (blk_cell BK405.out 2).trans rfl; have hfz22_0 := blk_frozen BK405.out 0; have hfz22_1 := blk_frozen BK405.out 1; have hfz22_2 := blk_frozen BK405.out 2) | ((with_reducible refine gate_callee (f := 11) rfl ?_); refine goesL_ (some 14) rfl rfl Tryd.func11 (by kernel_rfl) rfl #[.agg #[.int .u8 a0_0, .int .u8 a0_1, .int .u8 a0_2]] rfl (by (try simp only [List.map_toArray, List.map_cons, List.map_nil]); first | done | rfl | (simp only [List.length_drop, List.length_take]; rfl)) ?_; (with_reducible refine (gambrelref09_Some.calls a0_0 a0_1 a0_2 t408 t409 t410 _ A4.out).mono ?_); rintro e w23 ⟨rfl, hb⟩; refine ⟨_, rfl, ?_⟩; have n0_ := Aside0.mk (blk_below (g := gb405) (o := .cells #[.int .u8 a0_0, .int .u8 a0_1, .int .u8 a0_2] 39 (0, 0)) (by (with_reducible repeat (first | refine blk_drewN ?_ _ | refine blk_drew ?_ | refine blk_alloc ?_ _)); exact BK405.out) hb); have n1_ := Aside0.mk (blk_below (g := gb406) (o := .cells #[.int .u8 a1_0, .int .u8 a1_1, .int .u8 a1_2] 39 (0, 0)) (by (with_reducible repeat (first | refine blk_drewN ?_ _ | refine blk_drew ?_ | refine blk_alloc ?_ _)); exact BK406.out) hb); have n2_ := Aside0.mk (below_step (by repeat (first | (with_reducible first | exact HB.out | apply below_alloc | apply pw_below_drewN | apply below_drew1 | refine below_set ?_ GE405.out | refine below_set ?_ GE406.out) | exact HB.out)) hb); clear BK405; clear BK406; clear HB; have BK405 := n0_; have BK406 := n1_; have HB := n2_; clear n0_ n1_ n2_; (try clear hb); (try clear hb2); (try clear hk); (try clear hi)) | ((with_reducible refine gate_dst (N := 6) rfl ?_); refine box_event ?hg (N := 6) ?hd (cs := #[.int .i64 0, .int .i64 0, .int .i64 0]) (t := 23) ?hr ?_; (case hd => rfl); (case hg => rfl); (case hr => first | (go_simp; done) | (go_simp; rfl)); intro gb411 hg w24 hbox hb; have n0_ := Aside0.mk (blk_below (g := gb405) (o := .cells #[.int .u8 a0_0, .int .u8 a0_1, .int .u8 a0_2] 39 (0, 0)) (by (with_reducible repeat (first | refine blk_drewN ?_ _ | refine blk_drew ?_ | refine blk_alloc ?_ _)); exact BK405.out) hb); have n1_ := Aside0.mk (blk_below (g := gb406) (o := .cells #[.int .u8 a1_0, .int .u8 a1_1, .int .u8 a1_2] 39 (0, 0)) (by (with_reducible repeat (first | refine blk_drewN ?_ _ | refine blk_drew ?_ | refine blk_alloc ?_ _)); exact BK406.out) hb); have n2_ := Aside0.mk (below_step (by repeat (first | (with_reducible first | exact HB.out | apply below_alloc | apply pw_below_drewN | apply below_drew1 | refine below_set ?_ GE405.out | refine below_set ?_ GE406.out) | exact HB.out)) hb); have n3_ := Aside0.mk (hbox); have n4_ := Aside0.mk ((by rw [hg]; exact (below_size (by repeat (first | (with_reducible first | exact HB.out | apply below_alloc | apply pw_below_drewN | apply below_drew1 | refine below_set ?_ GE405.out | refine below_set ?_ GE406.out) | exact HB.out))) : w.heap.size ≤ gb411)); have n5_ := Aside0.mk ((by rw [hg]; exact (below_size (by repeat (first | (with_reducible first | exact HB.out | apply below_alloc | apply pw_below_drewN | apply below_drew1 | refine below_set ?_ GE405.out | refine below_set ?_ GE406.out) | exact HB.out))) : w.heap.size ≤ gb411)); have n6_ := Aside0.mk ((by rw [hg]; exact Nat.ne_of_lt (blk_lt (g := gb405) (o := .cells #[.int .u8 a0_0, .int .u8 a0_1, .int .u8 a0_2] 39 (0, 0)) (by (with_reducible repeat (first | refine blk_drewN ?_ _ | refine blk_drew ?_ | refine blk_alloc ?_ _)); exact BK405.out)) : gb405 ≠ gb411)); have n7_ := Aside0.mk ((by rw [hg]; exact Nat.ne_of_gt (blk_lt (g := gb405) (o := .cells #[.int .u8 a0_0, .int .u8 a0_1, .int .u8 a0_2] 39 (0, 0)) (by (with_reducible repeat (first | refine blk_drewN ?_ _ | refine blk_drew ?_ | refine blk_alloc ?_ _)); exact BK405.out)) : gb411 ≠ gb405)); have n8_ := Aside0.mk ((by rw [hg]; exact Nat.ne_of_lt (blk_lt (g := gb406) (o := .cells #[.int .u8 a1_0, .int .u8 a1_1, .int .u8 a1_2] 39 (0, 0)) (by (with_reducible repeat (first | refine blk_drewN ?_ _ | refine blk_drew ?_ | refine blk_alloc ?_ _)); exact BK406.out)) : gb406 ≠ gb411)); have n9_ := Aside0.mk ((by rw [hg]; exact Nat.ne_of_gt (blk_lt (g := gb406) (o := .cells #[.int .u8 a1_0, .int .u8 a1_1, .int .u8 a1_2] 39 (0, 0)) (by (with_reducible repeat (first | refine blk_drewN ?_ _ | refine blk_drew ?_ | refine blk_alloc ?_ _)); exact BK406.out)) : gb411 ≠ gb406)); clear BK405; clear BK406; clear HB; have BK405 := n0_; have BK406 := n1_; have HB := n2_; have BK411 := n3_; have GW411 := n4_; have GE411 := n5_; have NB405_411 := n6_; have NB411_405 := n7_; have NB406_411 := n8_; have NB411_406 := n9_; clear n0_ n1_ n2_ n3_ n4_ n5_ n6_ n7_ n8_ n9_; clear hb hbox hg; have hnb25 := NB411_405.out; have hnc25 := NB405_411.out; have hnb26 := NB411_406.out; have hnc26 := NB406_411.out; have hcz27_0 : w24.cell? ⟨gb411, 0, none⟩ = some (.int .i64 0) := (blk_cell BK411.out 0).trans rfl; have hcz27_1 : w24.cell? ⟨gb411, 1, none⟩ = some (.int .i64 0) := (blk_cell BK411.out 1).trans rfl; have hcz27_2 : w24.cell? ⟨gb411, 2, none⟩ = some (.int .i64 0) := (blk_cell BK411.out 2).trans rfl; have hfz27_0 := blk_frozen BK411.out 0; have hfz27_1 := blk_frozen BK411.out 1; have hfz27_2 := blk_frozen BK411.out 2; have hcz28_0 : w24.cell? ⟨gb406, 0, none⟩ = some (.int .u8 a1_0) := (blk_cell BK406.out 0).trans rfl; have hcz28_1 : w24.cell? ⟨gb406, 1, none⟩ = some (.int .u8 a1_1) := (blk_cell BK406.out 1).trans rfl; have hcz28_2 : w24.cell? ⟨gb406, 2, none⟩ = some (.int .u8 a1_2) := (blk_cell BK406.out 2).trans rfl; have hfz28_0 := blk_frozen BK406.out 0; have hfz28_1 := blk_frozen BK406.out 1; have hfz28_2 := blk_frozen BK406.out 2) | ((with_reducible refine gate_callee (f := 11) rfl ?_); refine goesL_ (some 16) rfl rfl Tryd.func11 (by kernel_rfl) rfl #[.agg #[.int .u8 a1_0, .int .u8 a1_1, .int .u8 a1_2]] rfl (by (try simp only [List.map_toArray, List.map_cons, List.map_nil]); first | done | rfl | (simp only [List.length_drop, List.length_take]; rfl)) ?_; (with_reducible refine (gambrelref09_Some.calls a1_0 a1_1 a1_2 t412 t413 t414 _ A5.out).mono ?_); rintro e w29 ⟨rfl, hb⟩; refine ⟨_, rfl, ?_⟩; have n0_ := Aside0.mk (blk_below (g := gb405) (o := .cells #[.int .u8 a0_0, .int .u8 a0_1, .int .u8 a0_2] 39 (0, 0)) (by (with_reducible repeat (first | refine blk_drewN ?_ _ | refine blk_drew ?_ | refine blk_alloc ?_ _)); refine blk_far ?_ NB405_411.out _; (with_reducible repeat (first | refine blk_drewN ?_ _ | refine blk_drew ?_ | refine blk_alloc ?_ _)); refine blk_far ?_ NB405_411.out _; (with_reducible repeat (first | refine blk_drewN ?_ _ | refine blk_drew ?_ | refine blk_alloc ?_ _)); refine blk_far ?_ NB405_411.out _; (with_reducible repeat (first | refine blk_drewN ?_ _ | refine blk_drew ?_ | refine blk_alloc ?_ _)); exact BK405.out) hb); have n1_ := Aside0.mk (blk_below (g := gb406) (o := .cells #[.int .u8 a1_0, .int .u8 a1_1, .int .u8 a1_2] 39 (0, 0)) (by (with_reducible repeat (first | refine blk_drewN ?_ _ | refine blk_drew ?_ | refine blk_alloc ?_ _)); refine blk_far ?_ NB406_411.out _; (with_reducible repeat (first | refine blk_drewN ?_ _ | refine blk_drew ?_ | refine blk_alloc ?_ _)); refine blk_far ?_ NB406_411.out _; (with_reducible repeat (first | refine blk_drewN ?_ _ | refine blk_drew ?_ | refine blk_alloc ?_ _)); refine blk_far ?_ NB406_411.out _; (with_reducible repeat (first | refine blk_drewN ?_ _ | refine blk_drew ?_ | refine blk_alloc ?_ _)); exact BK406.out) hb); have n2_ := Aside0.mk (blk_below (g := gb411) (o := .cells #[.int .i64 t408, .int .i64 t409, .int .i64 t410] 23 (0, 0)) (by (with_reducible repeat (first | refine blk_drewN ?_ _ | refine blk_drew ?_ | refine blk_alloc ?_ _)); refine blk_put (cs := #[.int .i64 t408, .int .i64 t409, .int .i64 0]) ?_ 2 _ rfl; (with_reducible repeat (first | refine blk_drewN ?_ _ | refine blk_drew ?_ | refine blk_alloc ?_ _)); refine blk_put (cs := #[.int .i64 t408, .int .i64 0, .int .i64 0]) ?_ 1 _ rfl; (with_reducible repeat (first | refine blk_drewN ?_ _ | refine blk_drew ?_ | refine blk_alloc ?_ _)); refine blk_put (cs := #[.int .i64 0, .int .i64 0, .int .i64 0]) ?_ 0 _ rfl; (with_reducible repeat (first | refine blk_drewN ?_ _ | refine blk_drew ?_ | refine blk_alloc ?_ _)); exact BK411.out) hb); have n3_ := Aside0.mk (below_step (by repeat (first | (with_reducible first | exact HB.out | apply below_alloc | apply pw_below_drewN | apply below_drew1 | refine below_set ?_ GE405.out | refine below_set ?_ GE406.out | refine below_set ?_ GE411.out) | exact HB.out)) hb); clear BK405; clear BK406; clear BK411; clear HB; have BK405 := n0_; have BK406 := n1_; have BK411 := n2_; have HB := n3_; clear n0_ n1_ n2_ n3_; (try clear hb); (try clear hb2); (try clear hk); (try clear hi)) | ((with_reducible refine gate_dst (N := 7) rfl ?_); refine box_event ?hg (N := 7) ?hd (cs := #[.int .i64 0, .int .i64 0, .int .i64 0]) (t := 23) ?hr ?_; (case hd => rfl); (case hg => rfl); (case hr => first | (go_simp; done) | (go_simp; rfl)); intro gb415 hg w30 hbox hb; have n0_ := Aside0.mk (blk_below (g := gb405) (o := .cells #[.int .u8 a0_0, .int .u8 a0_1, .int .u8 a0_2] 39 (0, 0)) (by (with_reducible repeat (first | refine blk_drewN ?_ _ | refine blk_drew ?_ | refine blk_alloc ?_ _)); exact BK405.out) hb); have n1_ := Aside0.mk (blk_below (g := gb406) (o := .cells #[.int .u8 a1_0, .int .u8 a1_1, .int .u8 a1_2] 39 (0, 0)) (by (with_reducible repeat (first | refine blk_drewN ?_ _ | refine blk_drew ?_ | refine blk_alloc ?_ _)); exact BK406.out) hb); have n2_ := Aside0.mk (blk_below (g := gb411) (o := .cells #[.int .i64 t408, .int .i64 t409, .int .i64 t410] 23 (0, 0)) (by (with_reducible repeat (first | refine blk_drewN ?_ _ | refine blk_drew ?_ | refine blk_alloc ?_ _)); exact BK411.out) hb); have n3_ := Aside0.mk (below_step (by repeat (first | (with_reducible first | exact HB.out | apply below_alloc | apply pw_below_drewN | apply below_drew1 | refine below_set ?_ GE405.out | refine below_set ?_ GE406.out | refine below_set ?_ GE411.out) | exact HB.out)) hb); have n4_ := Aside0.mk (hbox); have n5_ := Aside0.mk ((by rw [hg]; exact (below_size (by repeat (first | (with_reducible first | exact HB.out | apply below_alloc | apply pw_below_drewN | apply below_drew1 | refine below_set ?_ GE405.out | refine below_set ?_ GE406.out | refine below_set ?_ GE411.out) | exact HB.out))) : w.heap.size ≤ gb415)); have n6_ := Aside0.mk ((by rw [hg]; exact (below_size (by repeat (first | (with_reducible first | exact HB.out | apply below_alloc | apply pw_below_drewN | apply below_drew1 | refine below_set ?_ GE405.out | refine below_set ?_ GE406.out | refine below_set ?_ GE411.out) | exact HB.out))) : w.heap.size ≤ gb415)); have n7_ := Aside0.mk ((by rw [hg]; exact Nat.ne_of_lt (blk_lt (g := gb405) (o := .cells #[.int .u8 a0_0, .int .u8 a0_1, .int .u8 a0_2] 39 (0, 0)) (by (with_reducible repeat (first | refine blk_drewN ?_ _ | refine blk_drew ?_ | refine blk_alloc ?_ _)); exact BK405.out)) : gb405 ≠ gb415)); have n8_ := Aside0.mk ((by rw [hg]; exact Nat.ne_of_gt (blk_lt (g := gb405) (o := .cells #[.int .u8 a0_0, .int .u8 a0_1, .int .u8 a0_2] 39 (0, 0)) (by (with_reducible repeat (first | refine blk_drewN ?_ _ | refine blk_drew ?_ | refine blk_alloc ?_ _)); exact BK405.out)) : gb415 ≠ gb405)); have n9_ := Aside0.mk ((by rw [hg]; exact Nat.ne_of_lt (blk_lt (g := gb406) (o := .cells #[.int .u8 a1_0, .int .u8 a1_1, .int .u8 a1_2] 39 (0, 0)) (by (with_reducible repeat (first | refine blk_drewN ?_ _ | refine blk_drew ?_ | refine blk_alloc ?_ _)); exact BK406.out)) : gb406 ≠ gb415)); have n10_ := Aside0.mk ((by rw [hg]; exact Nat.ne_of_gt (blk_lt (g := gb406) (o := .cells #[.int .u8 a1_0, .int .u8 a1_1, .int .u8 a1_2] 39 (0, 0)) (by (with_reducible repeat (first | refine blk_drewN ?_ _ | refine blk_drew ?_ | refine blk_alloc ?_ _)); exact BK406.out)) : gb415 ≠ gb406)); have n11_ := Aside0.mk ((by rw [hg]; exact Nat.ne_of_lt (blk_lt (g := gb411) (o := .cells #[.int .i64 t408, .int .i64 t409, .int .i64 t410] 23 (0, 0)) (by (with_reducible repeat (first | refine blk_drewN ?_ _ | refine blk_drew ?_ | refine blk_alloc ?_ _)); exact BK411.out)) : gb411 ≠ gb415)); have n12_ := Aside0.mk ((by rw [hg]; exact Nat.ne_of_gt (blk_lt (g := gb411) (o := .cells #[.int .i64 t408, .int .i64 t409, .int .i64 t410] 23 (0, 0)) (by (with_reducible repeat (first | refine blk_drewN ?_ _ | refine blk_drew ?_ | refine blk_alloc ?_ _)); exact BK411.out)) : gb415 ≠ gb411)); clear BK405; clear BK406; clear BK411; clear HB; have BK405 := n0_; have BK406 := n1_; have BK411 := n2_; have HB := n3_; have BK415 := n4_; have GW415 := n5_; have GE415 := n6_; have NB405_415 := n7_; have NB415_405 := n8_; have NB406_415 := n9_; have NB415_406 := n10_; have NB411_415 := n11_; have NB415_411 := n12_; clear n0_ n1_ n2_ n3_ n4_ n5_ n6_ n7_ n8_ n9_ n10_ n11_ n12_; clear hb hbox hg; have hnb31 := NB415_405.out; have hnc31 := NB405_415.out; have hnb32 := NB415_406.out; have hnc32 := NB406_415.out; have hnb33 := NB415_411.out; have hnc33 := NB411_415.out; have hcz34_0 : w30.cell? ⟨gb415, 0, none⟩ = some (.int .i64 0) := (blk_cell BK415.out 0).trans rfl; have hcz34_1 : w30.cell? ⟨gb415, 1, none⟩ = some (.int .i64 0) := (blk_cell BK415.out 1).trans rfl; have hcz34_2 : w30.cell? ⟨gb415, 2, none⟩ = some (.int .i64 0) := (blk_cell BK415.out 2).trans rfl; have hfz34_0 := blk_frozen BK415.out 0; have hfz34_1 := blk_frozen BK415.out 1; have hfz34_2 := blk_frozen BK415.out 2))
       have n0_ : Aside0 ((((w30.setCell ⟨gb415, 0, none⟩ (.int .i64 t412)).setCell ⟨gb415, 1, none⟩ (.int .i64 t413)).setCell ⟨gb415, 2, none⟩ (.int .i64 t414)).heap[gb405]? = some (.cells #[.int .u8 a0_0, .int .u8 a0_1, .int .u8 a0_2] 39 (0, 0))) := ⟨by (with_reducible repeat (first | refine blk_drewN ?_ _ | refine blk_drew ?_ | refine blk_alloc ?_ _)); refine blk_far ?_ NB405_415.out _; (with_reducible repeat (first | refine blk_drewN ?_ _ | refine blk_drew ?_ | refine blk_alloc ?_ _)); refine blk_far ?_ NB405_415.out _; (with_reducible repeat (first | refine blk_drewN ?_ _ | refine blk_drew ?_ | refine blk_alloc ?_ _)); refine blk_far ?_ NB405_415.out _; (with_reducible repeat (first | refine blk_drewN ?_ _ | refine blk_drew ?_ | refine blk_alloc ?_ _)); exact BK405.out⟩
       have n1_ : Aside0 ((((w30.setCell ⟨gb415, 0, none⟩ (.int .i64 t412)).setCell ⟨gb415, 1, none⟩ (.int .i64 t413)).setCell ⟨gb415, 2, none⟩ (.int .i64 t414)).heap[gb406]? = some (.cells #[.int .u8 a1_0, .int .u8 a1_1, .int .u8 a1_2] 39 (0, 0))) := ⟨by (with_reducible repeat (first | refine blk_drewN ?_ _ | refine blk_drew ?_ | refine blk_alloc ?_ _)); refine blk_far ?_ NB406_415.out _; (with_reducible repeat (first | refine blk_drewN ?_ _ | refine blk_drew ?_ | refine blk_alloc ?_ _)); refine blk_far ?_ NB406_415.out _; (with_reducible repeat (first | refine blk_drewN ?_ _ | refine blk_drew ?_ | refine blk_alloc ?_ _)); refine blk_far ?_ NB406_415.out _; (with_reducible repeat (first | refine blk_drewN ?_ _ | refine blk_drew ?_ | refine blk_alloc ?_ _)); exact BK406.out⟩
       have n2_ : Aside0 ((((w30.setCell ⟨gb415, 0, none⟩ (.int .i64 t412)).setCell ⟨gb415, 1, none⟩ (.int .i64 t413)).setCell ⟨gb415, 2, none⟩ (.int .i64 t414)).heap[gb411]? = some (.cells #[.int .i64 t408, .int .i64 t409, .int .i64 t410] 23 (0, 0))) := ⟨by (with_reducible repeat (first | refine blk_drewN ?_ _ | refine blk_drew ?_ | refine blk_alloc ?_ _)); refine blk_far ?_ NB411_415.out _; (with_reducible repeat (first | refine blk_drewN ?_ _ | refine blk_drew ?_ | refine blk_alloc ?_ _)); refine blk_far ?_ NB411_415.out _; (with_reducible repeat (first | refine blk_drewN ?_ _ | refine blk_drew ?_ | refine blk_alloc ?_ _)); refine blk_far ?_ NB411_415.out _; (with_reducible repeat (first | refine blk_drewN ?_ _ | refine blk_drew ?_ | refine blk_alloc ?_ _)); exact BK411.out⟩
       have n3_ : Aside0 ((((w30.setCell ⟨gb415, 0, none⟩ (.int .i64 t412)).setCell ⟨gb415, 1, none⟩ (.int .i64 t413)).setCell ⟨gb415, 2, none⟩ (.int .i64 t414)).heap[gb415]? = some (.cells #[.int .i64 t412, .int .i64 t413, .int .i64 t414] 23 (0, 0))) := ⟨by (with_reducible repeat (first | refine blk_drewN ?_ _ | refine blk_drew ?_ | refine blk_alloc ?_ _)); refine blk_put (cs := #[.int .i64 t412, .int .i64 t413, .int .i64 0]) ?_ 2 _ rfl; (with_reducible repeat (first | refine blk_drewN ?_ _ | refine blk_drew ?_ | refine blk_alloc ?_ _)); refine blk_put (cs := #[.int .i64 t412, .int .i64 0, .int .i64 0]) ?_ 1 _ rfl; (with_reducible repeat (first | refine blk_drewN ?_ _ | refine blk_drew ?_ | refine blk_alloc ?_ _)); refine blk_put (cs := #[.int .i64 0, .int .i64 0, .int .i64 0]) ?_ 0 _ rfl; (with_reducible repeat (first | refine blk_drewN ?_ _ | refine blk_drew ?_ | refine blk_alloc ?_ _)); exact BK415.out⟩
       have n4_ : Aside0 (Below w.heap.size w (((w30.setCell ⟨gb415, 0, none⟩ (.int .i64 t412)).setCell ⟨gb415, 1, none⟩ (.int .i64 t413)).setCell ⟨gb415, 2, none⟩ (.int .i64 t414))) := ⟨by repeat (first | (with_reducible first | exact HB.out | apply below_alloc | apply pw_below_drewN | apply below_drew1 | refine below_set ?_ GE405.out | refine below_set ?_ GE406.out | refine below_set ?_ GE411.out | refine below_set ?_ GE415.out) | exact HB.out)⟩
       (try clear BK405)
       (try clear BK406)
       (try clear BK411)
       (try clear BK415)
       (try clear HB)
       generalize (((w30.setCell ⟨gb415, 0, none⟩ (.int .i64 t412)).setCell ⟨gb415, 1, none⟩ (.int .i64 t413)).setCell ⟨gb415, 2, none⟩ (.int .i64 t414)) = w35 at n0_ n1_ n2_ n3_ n4_ ⊢
       have BK405 := n0_
       have BK406 := n1_
       have BK411 := n2_
       have BK415 := n3_
       have HB := n4_
       clear n0_ n1_ n2_ n3_ n4_
       have n0_ := Aside0.mk (blk_drew BK405.out)
       have n1_ := Aside0.mk (blk_drew BK406.out)
       have n2_ := Aside0.mk (blk_drew BK411.out)
       have n3_ := Aside0.mk (blk_drew BK415.out)
       have n4_ := Aside0.mk (below_drew1 HB.out)
       clear BK405
       clear BK406
       clear BK411
       clear BK415
       clear HB
       have BK405 := n0_
       have BK406 := n1_
       have BK411 := n2_
       have BK415 := n3_
       have HB := n4_
       clear n0_ n1_ n2_ n3_ n4_
       refine start_ (n := 11) (S := fun w' => w'.cell? ⟨gb411, 0, none⟩ = some (.int .i64 t408) ∧ w'.cell? ⟨gb411, 1, none⟩ = some (.int .i64 t409) ∧ w'.cell? ⟨gb411, 2, none⟩ = some (.int .i64 t410) ∧ w'.cell? ⟨gb415, 0, none⟩ = some (.int .i64 t412) ∧ w'.cell? ⟨gb415, 1, none⟩ = some (.int .i64 t413) ∧ w'.cell? ⟨gb415, 2, none⟩ = some (.int .i64 t414)) (ds := []) #[false, false, false, false, false, false, false, false, false, false, false] (by kernel_rfl) rfl rfl ⟨(blk_cell BK411.out 0).trans rfl, (blk_cell BK411.out 1).trans rfl, (blk_cell BK411.out 2).trans rfl, (blk_cell BK415.out 0).trans rfl, (blk_cell BK415.out 1).trans rfl, (blk_cell BK415.out 2).trans rfl⟩ (fun hHeld => ?_); refine with_tabW gambrellaw22_PlanBack.tab4 gambrellaw22_PlanBack.bits4 (fun HT_ HW_ => ?_)
       generalize w35.drew = w36 at BK405 BK406 BK411 BK415 HB hHeld ⊢
       refine take_ (i := 0) (N := some 18) (v := ?_) (a' := ?_) #[true, false, false, false, false, false, false, false, false, false, false] rfl rfl (take_ofW HT_.out HW_.out (by kernel_rfl)) (fun _ _ _ h => h) (Or.inl ⟨by rfl, ?_⟩) hHeld ?_ ?_
       rotate_left
       ·rintro w' ⟨s0, s1, s2, s3, s4, s5⟩
        go_simp
        with_reducible rfl
       rotate_left
       ·simp only [Act.put, List.setIfInBounds_toArray, List.set_cons_zero, List.set_cons_succ, i64_w, i32_w]
        rfl
       refine take_ (i := 1) (N := some 19) (v := ?_) (a' := ?_) #[true, true, false, false, false, false, false, false, false, false, false] rfl rfl (take_ofW HT_.out HW_.out (by kernel_rfl)) (fun _ _ _ h => h) (Or.inl ⟨by rfl, ?_⟩) hHeld ?_ ?_
       rotate_left
       ·rintro w' ⟨s0, s1, s2, s3, s4, s5⟩
        go_simp
        with_reducible rfl
       rotate_left
       ·simp only [Act.put, List.setIfInBounds_toArray, List.set_cons_zero, List.set_cons_succ, i64_w, i32_w]
        rfl
       refine take_ (i := 3) (N := some 21) (v := ?_) (a' := ?_) #[true, true, false, true, false, false, false, false, false, false, false] rfl rfl (take_ofW HT_.out HW_.out (by kernel_rfl)) (fun _ _ _ h => h) (Or.inl ⟨by rfl, ?_⟩) hHeld ?_ ?_
       rotate_left
       ·rintro w' ⟨s0, s1, s2, s3, s4, s5⟩
        go_simp
        with_reducible rfl
       rotate_left
       ·simp only [Act.put, List.setIfInBounds_toArray, List.set_cons_zero, List.set_cons_succ, i64_w, i32_w]
        rfl
       refine join_ (σ := Value × Value × Value × Nat) 2 #[true, true, true, true, true, true, true, true, true, false, false] (fun s_ => [(20, s_.1), (22, .tuple #[.agg #[.bool t419, .bool t420, s_.2.1, s_.2.2.1], .int .i64 t427]), (8, .pointer (some ⟨s_.2.2.2, 0, none⟩)), (17, .tuple #[.agg #[.bool t419, .bool t420, s_.2.1, s_.2.2.1], .int .i64 t427]), (23, .agg #[.bool t419, .bool t420, s_.2.1, s_.2.2.1]), (24, .int .i64 t427)]) (fun s_ w' => (w'.cell? ⟨gb411, 0, none⟩ = some (.int .i64 t408) ∧ w'.cell? ⟨gb411, 1, none⟩ = some (.int .i64 t409) ∧ w'.cell? ⟨gb411, 2, none⟩ = some (.int .i64 t410) ∧ w'.cell? ⟨gb415, 0, none⟩ = some (.int .i64 t412) ∧ w'.cell? ⟨gb415, 1, none⟩ = some (.int .i64 t413) ∧ w'.cell? ⟨gb415, 2, none⟩ = some (.int .i64 t414)) ∧ (Kd.R (Kd.int .i64) 3 w' w.heap.size (fun _ => True) s_.1 t416) ∧ (Kd.R Kd.string 9 w' w.heap.size (fun k_ => some k_ ≠ (s_.2.2.1 : Value).ownBlock) s_.2.1 t421) ∧ (Kd.R Kd.string 9 w' w.heap.size (fun k_ => some k_ ≠ (s_.2.1 : Value).ownBlock) s_.2.2.1 t424) ∧ (w'.heap[gb405]? = some (.cells #[.int .u8 a0_0, .int .u8 a0_1, .int .u8 a0_2] 39 (0, 0))) ∧ (w'.heap[gb406]? = some (.cells #[.int .u8 a1_0, .int .u8 a1_1, .int .u8 a1_2] 39 (0, 0))) ∧ (w'.heap[gb411]? = some (.cells #[.int .i64 t408, .int .i64 t409, .int .i64 t410] 23 (0, 0))) ∧ (w'.heap[gb415]? = some (.cells #[.int .i64 t412, .int .i64 t413, .int .i64 t414] 23 (0, 0))) ∧ (w'.heap[s_.2.2.2]? = some (.cells #[.bool false, .bool false, .slice none 0 0, .slice none 0 0] 30 (0, 0))) ∧ (w.heap.size ≤ s_.2.2.2) ∧ (w.heap.size ≤ s_.2.2.2) ∧ (gb405 ≠ s_.2.2.2) ∧ (s_.2.2.2 ≠ gb405) ∧ (gb406 ≠ s_.2.2.2) ∧ (s_.2.2.2 ≠ gb406) ∧ (gb411 ≠ s_.2.2.2) ∧ (s_.2.2.2 ≠ gb411) ∧ (gb415 ≠ s_.2.2.2) ∧ (s_.2.2.2 ≠ gb415) ∧ (Below w.heap.size w w')) ?_ ?_
       rotate_left
       ·intro hCont
        refine two_ (i := 2) (j := 8) (Ni := some 20) (Nj := some 8) #[true, true, true, true, false, false, false, false, false, false, false] #[true, true, false, true, false, false, false, false, true, false, false] rfl rfl rfl rfl (two_of HT_.out (by kernel_rfl)) (by decide) (by decide) (fun K hK => ?_) (fun K hK => ?_)
        ·skip
         refine goes_ Tryd.func12 (by kernel_rfl) rfl #[.agg #[.int .i64 t408, .int .i64 t409, .int .i64 t410], .int .u8 15, .int .u8 0] (by rfl) rfl rfl (by (try simp only [List.map_toArray, List.map_cons, List.map_nil]); first | done | rfl | (simp only [List.length_drop, List.length_take]; rfl)) ?_
         with_reducible refine (gambrellaw22_states.calls k t408 t409 t410 15 0 t416 _ A6.out).mono ?_
         rintro e w37 ⟨v417, rfl, ho0, hb⟩
         refine ⟨_, rfl, ?_⟩
         have n0_ := Aside0.mk (Kd.R_lower ho0 (below_size (by repeat (first | (with_reducible first | exact HB.out | apply below_alloc | apply pw_below_drewN | apply below_drew1 | refine below_set ?_ GE405.out | refine below_set ?_ GE406.out | refine below_set ?_ GE411.out | refine below_set ?_ GE415.out) | exact HB.out))))
         have n1_ := Aside0.mk (blk_below (g := gb405) (o := .cells #[.int .u8 a0_0, .int .u8 a0_1, .int .u8 a0_2] 39 (0, 0)) (by (with_reducible repeat (first | refine blk_drewN ?_ _ | refine blk_drew ?_ | refine blk_alloc ?_ _)); exact BK405.out) hb)
         have n2_ := Aside0.mk (blk_below (g := gb406) (o := .cells #[.int .u8 a1_0, .int .u8 a1_1, .int .u8 a1_2] 39 (0, 0)) (by (with_reducible repeat (first | refine blk_drewN ?_ _ | refine blk_drew ?_ | refine blk_alloc ?_ _)); exact BK406.out) hb)
         have n3_ := Aside0.mk (blk_below (g := gb411) (o := .cells #[.int .i64 t408, .int .i64 t409, .int .i64 t410] 23 (0, 0)) (by (with_reducible repeat (first | refine blk_drewN ?_ _ | refine blk_drew ?_ | refine blk_alloc ?_ _)); exact BK411.out) hb)
         have n4_ := Aside0.mk (blk_below (g := gb415) (o := .cells #[.int .i64 t412, .int .i64 t413, .int .i64 t414] 23 (0, 0)) (by (with_reducible repeat (first | refine blk_drewN ?_ _ | refine blk_drew ?_ | refine blk_alloc ?_ _)); exact BK415.out) hb)
         have n5_ := Aside0.mk (below_step (by repeat (first | (with_reducible first | exact HB.out | apply below_alloc | apply pw_below_drewN | apply below_drew1 | refine below_set ?_ GE405.out | refine below_set ?_ GE406.out | refine below_set ?_ GE411.out | refine below_set ?_ GE415.out) | exact HB.out)) hb)
         clear BK405
         clear BK406
         clear BK411
         clear BK415
         clear HB
         have HO418 := n0_
         have BK405 := n1_
         have BK406 := n2_
         have BK411 := n3_
         have BK415 := n4_
         have HB := n5_
         clear n0_ n1_ n2_ n3_ n4_ n5_
         (try clear hb)
         (try clear hb2)
         (try clear hk)
         (try clear hi)
         (try clear ho0)
         obtain ⟨Ao38, co38, eo38⟩ := Kd.R_slice HO418.out
         (first | subst eo38 | (injection eo38 with f1_ f2_ f3_; have f4_ := f1_.symm; have f5_ := f3_.symm; clear f1_ f2_ f3_; subst f4_; subst f5_))
         refine hK.out _ _ ⟨(blk_cell BK411.out 0).trans rfl, (blk_cell BK411.out 1).trans rfl, (blk_cell BK411.out 2).trans rfl, (blk_cell BK415.out 0).trans rfl, (blk_cell BK415.out 1).trans rfl, (blk_cell BK415.out 2).trans rfl⟩ (fun hHeld => ?_)
         clear hK K
         refine norm_ (a' := ?_) ?_ ?_
         rotate_left
         ·show Act.put _ (some 20) _ = _
          simp only [Act.put, List.setIfInBounds_toArray, List.set_cons_zero, List.set_cons_succ, i64_w, i32_w]
          rfl
         refine two_ (i := 4) (j := 8) (Ni := some 22) (Nj := some 8) #[true, true, true, true, true, false, false, false, false, false, false] #[true, true, true, true, false, false, false, false, true, false, false] rfl rfl rfl rfl (two_of HT_.out (by kernel_rfl)) (by decide) (by decide) (fun K hK => ?_) (fun K hK => ?_)
         ·skip
          refine goes_ Tryd.func8 (by kernel_rfl) rfl #[.string (⟨#[97, 98, 99]⟩ : ByteArray), .agg #[.int .i64 t408, .int .i64 t409, .int .i64 t410], .slice Ao38 t416.length co38, .agg #[.int .i64 t412, .int .i64 t413, .int .i64 t414]] (by rfl) rfl rfl (by (try simp only [List.map_toArray, List.map_cons, List.map_nil]); first | done | rfl | (simp only [List.length_drop, List.length_take]; rfl)) ?_
          with_reducible refine (plan_Of.calls k (⟨#[97, 98, 99]⟩ : ByteArray) t408 t409 t410 _ _ t416 t412 t413 t414 t419 t420 t421 t424 t427 _ ?side1 ?side2 A7.out).mono ?_
          (case side1 => repeat (first | exact (Kd.R_reads' HO418.out).2.2 | (with_reducible refine Kd.C_alloc ?_ _) | (with_reducible refine Kd.C_drewN ?_ _) | (with_reducible refine Kd.C_drew ?_)))
          (case side2 => exact (Kd.R_reads' HO418.out).2.1)
          rintro e w39 ⟨v422, v425, rfl, ho0, ho1, hb⟩
          refine ⟨_, rfl, ?_⟩
          have n0_ := Aside0.mk (Kd.R_below (by (with_reducible repeat (first | apply Kd.R_alloc | apply Kd.R_drewN | apply Kd.R_drew)); exact HO418.out) hb)
          have n1_ := Aside0.mk (Kd.R_lower ho0 (below_size (by repeat (first | (with_reducible first | exact HB.out | apply below_alloc | apply pw_below_drewN | apply below_drew1 | refine below_set ?_ GE405.out | refine below_set ?_ GE406.out | refine below_set ?_ GE411.out | refine below_set ?_ GE415.out) | exact HB.out))))
          have n2_ := Aside0.mk (Kd.R_lower ho1 (below_size (by repeat (first | (with_reducible first | exact HB.out | apply below_alloc | apply pw_below_drewN | apply below_drew1 | refine below_set ?_ GE405.out | refine below_set ?_ GE406.out | refine below_set ?_ GE411.out | refine below_set ?_ GE415.out) | exact HB.out))))
          have n3_ := Aside0.mk (blk_below (g := gb405) (o := .cells #[.int .u8 a0_0, .int .u8 a0_1, .int .u8 a0_2] 39 (0, 0)) (by (with_reducible repeat (first | refine blk_drewN ?_ _ | refine blk_drew ?_ | refine blk_alloc ?_ _)); exact BK405.out) hb)
          have n4_ := Aside0.mk (blk_below (g := gb406) (o := .cells #[.int .u8 a1_0, .int .u8 a1_1, .int .u8 a1_2] 39 (0, 0)) (by (with_reducible repeat (first | refine blk_drewN ?_ _ | refine blk_drew ?_ | refine blk_alloc ?_ _)); exact BK406.out) hb)
          have n5_ := Aside0.mk (blk_below (g := gb411) (o := .cells #[.int .i64 t408, .int .i64 t409, .int .i64 t410] 23 (0, 0)) (by (with_reducible repeat (first | refine blk_drewN ?_ _ | refine blk_drew ?_ | refine blk_alloc ?_ _)); exact BK411.out) hb)
          have n6_ := Aside0.mk (blk_below (g := gb415) (o := .cells #[.int .i64 t412, .int .i64 t413, .int .i64 t414] 23 (0, 0)) (by (with_reducible repeat (first | refine blk_drewN ?_ _ | refine blk_drew ?_ | refine blk_alloc ?_ _)); exact BK415.out) hb)
          have n7_ := Aside0.mk (below_step (by repeat (first | (with_reducible first | exact HB.out | apply below_alloc | apply pw_below_drewN | apply below_drew1 | refine below_set ?_ GE405.out | refine below_set ?_ GE406.out | refine below_set ?_ GE411.out | refine below_set ?_ GE415.out) | exact HB.out)) hb)
          clear HO418
          clear BK405
          clear BK406
          clear BK411
          clear BK415
          clear HB
          have HO418 := n0_
          have HO423 := n1_
          have HO426 := n2_
          have BK405 := n3_
          have BK406 := n4_
          have BK411 := n5_
          have BK415 := n6_
          have HB := n7_
          clear n0_ n1_ n2_ n3_ n4_ n5_ n6_ n7_
          (try clear hb)
          (try clear hb2)
          (try clear hk)
          (try clear hi)
          (try clear ho0)
          (try clear ho1)
          refine hK.out _ _ ⟨(blk_cell BK411.out 0).trans rfl, (blk_cell BK411.out 1).trans rfl, (blk_cell BK411.out 2).trans rfl, (blk_cell BK415.out 0).trans rfl, (blk_cell BK415.out 1).trans rfl, (blk_cell BK415.out 2).trans rfl⟩ (fun hHeld => ?_)
          clear hK K
          refine norm_ (a' := ?_) ?_ ?_
          rotate_left
          ·show Act.put _ (some 22) _ = _
           simp only [Act.put, List.setIfInBounds_toArray, List.set_cons_zero, List.set_cons_succ, i64_w, i32_w]
           rfl
          refine pure_ (i := 5) (N := some 17) (v := ?_) (a' := ?_) #[true, true, true, true, true, true, false, false, false, false, false] rfl rfl (any_of HT_.out (by kernel_rfl)) (fun _ _ _ h => h) (Or.inl ⟨by rfl, ?_⟩) ?_ ?_
          rotate_left
          ·intro w'
           go_simp
           with_reducible rfl
          rotate_left
          ·simp only [Act.put, List.setIfInBounds_toArray, List.set_cons_zero, List.set_cons_succ, i64_w, i32_w]
           rfl
          refine pure_ (i := 6) (N := some 23) (v := ?_) (a' := ?_) #[true, true, true, true, true, true, true, false, false, false, false] rfl rfl (any_of HT_.out (by kernel_rfl)) (fun _ _ _ h => h) (Or.inl ⟨by rfl, ?_⟩) ?_ ?_
          rotate_left
          ·intro w'
           go_simp
           with_reducible rfl
          rotate_left
          ·simp only [Act.put, List.setIfInBounds_toArray, List.set_cons_zero, List.set_cons_succ, i64_w, i32_w]
           rfl
          refine pure_ (i := 7) (N := some 24) (v := ?_) (a' := ?_) #[true, true, true, true, true, true, true, true, false, false, false] rfl rfl (any_of HT_.out (by kernel_rfl)) (fun _ _ _ h => h) (Or.inl ⟨by rfl, ?_⟩) ?_ ?_
          rotate_left
          ·intro w'
           go_simp
           with_reducible rfl
          rotate_left
          ·simp only [Act.put, List.setIfInBounds_toArray, List.set_cons_zero, List.set_cons_succ, i64_w, i32_w]
           rfl
          refine one_ (i := 8) (N := some 8) #[true, true, true, true, true, true, true, true, true, false, false] rfl rfl (one_of HT_.out (by kernel_rfl)) (by decide) (fun K hK => ?_)
          refine box_step ?hg (N := 8) ?hd (cs := #[.bool false, .bool false, .slice none 0 0, .slice none 0 0]) (t := 30) ?hr ?_; (case hd => rfl); (case hg => rfl); (case hr => first | (go_simp; done) | (go_simp; rfl))
          intro gb428 hg w40 hbox hb
          have n0_ := Aside0.mk (Kd.R_below (by (with_reducible repeat (first | apply Kd.R_alloc | apply Kd.R_drewN | apply Kd.R_drew)); exact HO418.out) hb)
          have n1_ := Aside0.mk (Kd.R_below (by (with_reducible repeat (first | apply Kd.R_alloc | apply Kd.R_drewN | apply Kd.R_drew)); exact HO423.out) hb)
          have n2_ := Aside0.mk (Kd.R_below (by (with_reducible repeat (first | apply Kd.R_alloc | apply Kd.R_drewN | apply Kd.R_drew)); exact HO426.out) hb)
          have n3_ := Aside0.mk (blk_below (g := gb405) (o := .cells #[.int .u8 a0_0, .int .u8 a0_1, .int .u8 a0_2] 39 (0, 0)) (by (with_reducible repeat (first | refine blk_drewN ?_ _ | refine blk_drew ?_ | refine blk_alloc ?_ _)); exact BK405.out) hb)
          have n4_ := Aside0.mk (blk_below (g := gb406) (o := .cells #[.int .u8 a1_0, .int .u8 a1_1, .int .u8 a1_2] 39 (0, 0)) (by (with_reducible repeat (first | refine blk_drewN ?_ _ | refine blk_drew ?_ | refine blk_alloc ?_ _)); exact BK406.out) hb)
          have n5_ := Aside0.mk (blk_below (g := gb411) (o := .cells #[.int .i64 t408, .int .i64 t409, .int .i64 t410] 23 (0, 0)) (by (with_reducible repeat (first | refine blk_drewN ?_ _ | refine blk_drew ?_ | refine blk_alloc ?_ _)); exact BK411.out) hb)
          have n6_ := Aside0.mk (blk_below (g := gb415) (o := .cells #[.int .i64 t412, .int .i64 t413, .int .i64 t414] 23 (0, 0)) (by (with_reducible repeat (first | refine blk_drewN ?_ _ | refine blk_drew ?_ | refine blk_alloc ?_ _)); exact BK415.out) hb)
          have n7_ := Aside0.mk (below_step (by repeat (first | (with_reducible first | exact HB.out | apply below_alloc | apply pw_below_drewN | apply below_drew1 | refine below_set ?_ GE405.out | refine below_set ?_ GE406.out | refine below_set ?_ GE411.out | refine below_set ?_ GE415.out) | exact HB.out)) hb)
          have n8_ := Aside0.mk (hbox)
          have n9_ := Aside0.mk ((by rw [hg]; exact (below_size (by repeat (first | (with_reducible first | exact HB.out | apply below_alloc | apply pw_below_drewN | apply below_drew1 | refine below_set ?_ GE405.out | refine below_set ?_ GE406.out | refine below_set ?_ GE411.out | refine below_set ?_ GE415.out) | exact HB.out))) : w.heap.size ≤ gb428))
          have n10_ := Aside0.mk ((by rw [hg]; exact (below_size (by repeat (first | (with_reducible first | exact HB.out | apply below_alloc | apply pw_below_drewN | apply below_drew1 | refine below_set ?_ GE405.out | refine below_set ?_ GE406.out | refine below_set ?_ GE411.out | refine below_set ?_ GE415.out) | exact HB.out))) : w.heap.size ≤ gb428))
          have n11_ := Aside0.mk ((by rw [hg]; exact Nat.ne_of_lt (blk_lt (g := gb405) (o := .cells #[.int .u8 a0_0, .int .u8 a0_1, .int .u8 a0_2] 39 (0, 0)) (by (with_reducible repeat (first | refine blk_drewN ?_ _ | refine blk_drew ?_ | refine blk_alloc ?_ _)); exact BK405.out)) : gb405 ≠ gb428))
          have n12_ := Aside0.mk ((by rw [hg]; exact Nat.ne_of_gt (blk_lt (g := gb405) (o := .cells #[.int .u8 a0_0, .int .u8 a0_1, .int .u8 a0_2] 39 (0, 0)) (by (with_reducible repeat (first | refine blk_drewN ?_ _ | refine blk_drew ?_ | refine blk_alloc ?_ _)); exact BK405.out)) : gb428 ≠ gb405))
          have n13_ := Aside0.mk ((by rw [hg]; exact Nat.ne_of_lt (blk_lt (g := gb406) (o := .cells #[.int .u8 a1_0, .int .u8 a1_1, .int .u8 a1_2] 39 (0, 0)) (by (with_reducible repeat (first | refine blk_drewN ?_ _ | refine blk_drew ?_ | refine blk_alloc ?_ _)); exact BK406.out)) : gb406 ≠ gb428))
          have n14_ := Aside0.mk ((by rw [hg]; exact Nat.ne_of_gt (blk_lt (g := gb406) (o := .cells #[.int .u8 a1_0, .int .u8 a1_1, .int .u8 a1_2] 39 (0, 0)) (by (with_reducible repeat (first | refine blk_drewN ?_ _ | refine blk_drew ?_ | refine blk_alloc ?_ _)); exact BK406.out)) : gb428 ≠ gb406))
          have n15_ := Aside0.mk ((by rw [hg]; exact Nat.ne_of_lt (blk_lt (g := gb411) (o := .cells #[.int .i64 t408, .int .i64 t409, .int .i64 t410] 23 (0, 0)) (by (with_reducible repeat (first | refine blk_drewN ?_ _ | refine blk_drew ?_ | refine blk_alloc ?_ _)); exact BK411.out)) : gb411 ≠ gb428))
          have n16_ := Aside0.mk ((by rw [hg]; exact Nat.ne_of_gt (blk_lt (g := gb411) (o := .cells #[.int .i64 t408, .int .i64 t409, .int .i64 t410] 23 (0, 0)) (by (with_reducible repeat (first | refine blk_drewN ?_ _ | refine blk_drew ?_ | refine blk_alloc ?_ _)); exact BK411.out)) : gb428 ≠ gb411))
          have n17_ := Aside0.mk ((by rw [hg]; exact Nat.ne_of_lt (blk_lt (g := gb415) (o := .cells #[.int .i64 t412, .int .i64 t413, .int .i64 t414] 23 (0, 0)) (by (with_reducible repeat (first | refine blk_drewN ?_ _ | refine blk_drew ?_ | refine blk_alloc ?_ _)); exact BK415.out)) : gb415 ≠ gb428))
          have n18_ := Aside0.mk ((by rw [hg]; exact Nat.ne_of_gt (blk_lt (g := gb415) (o := .cells #[.int .i64 t412, .int .i64 t413, .int .i64 t414] 23 (0, 0)) (by (with_reducible repeat (first | refine blk_drewN ?_ _ | refine blk_drew ?_ | refine blk_alloc ?_ _)); exact BK415.out)) : gb428 ≠ gb415))
          clear HO418
          clear HO423
          clear HO426
          clear BK405
          clear BK406
          clear BK411
          clear BK415
          clear HB
          have HO418 := n0_
          have HO423 := n1_
          have HO426 := n2_
          have BK405 := n3_
          have BK406 := n4_
          have BK411 := n5_
          have BK415 := n6_
          have HB := n7_
          have BK428 := n8_
          have GW428 := n9_
          have GE428 := n10_
          have NB405_428 := n11_
          have NB428_405 := n12_
          have NB406_428 := n13_
          have NB428_406 := n14_
          have NB411_428 := n15_
          have NB428_411 := n16_
          have NB415_428 := n17_
          have NB428_415 := n18_
          clear n0_ n1_ n2_ n3_ n4_ n5_ n6_ n7_ n8_ n9_ n10_ n11_ n12_ n13_ n14_ n15_ n16_ n17_ n18_
          clear hb hbox hg
          refine hK.out _ _ ⟨(blk_cell BK411.out 0).trans rfl, (blk_cell BK411.out 1).trans rfl, (blk_cell BK411.out 2).trans rfl, (blk_cell BK415.out 0).trans rfl, (blk_cell BK415.out 1).trans rfl, (blk_cell BK415.out 2).trans rfl⟩ (fun hHeld => ?_)
          clear hK K
          refine norm_ (a' := ?_) ?_ ?_
          rotate_left
          ·show Act.put _ (some 8) _ = _
           simp only [Act.put, List.setIfInBounds_toArray, List.set_cons_zero, List.set_cons_succ, i64_w, i32_w]
           rfl
          exact norm_ (by simp only [putAll, Act.put, List.setIfInBounds_toArray, List.set_cons_zero, List.set_cons_succ]) (hCont (.slice Ao38 t416.length co38, v422, v425, gb428) _ ⟨hHeld, (by (with_reducible repeat (first | apply Kd.R_alloc | apply Kd.R_drewN | apply Kd.R_drew)); exact HO418.out), (by (with_reducible repeat (first | apply Kd.R_alloc | apply Kd.R_drewN | apply Kd.R_drew)); exact HO423.out), (by (with_reducible repeat (first | apply Kd.R_alloc | apply Kd.R_drewN | apply Kd.R_drew)); exact HO426.out), (by (with_reducible repeat (first | refine blk_drewN ?_ _ | refine blk_drew ?_ | refine blk_alloc ?_ _)); exact BK405.out), (by (with_reducible repeat (first | refine blk_drewN ?_ _ | refine blk_drew ?_ | refine blk_alloc ?_ _)); exact BK406.out), (by (with_reducible repeat (first | refine blk_drewN ?_ _ | refine blk_drew ?_ | refine blk_alloc ?_ _)); exact BK411.out), (by (with_reducible repeat (first | refine blk_drewN ?_ _ | refine blk_drew ?_ | refine blk_alloc ?_ _)); exact BK415.out), (by (with_reducible repeat (first | refine blk_drewN ?_ _ | refine blk_drew ?_ | refine blk_alloc ?_ _)); exact BK428.out), GW428.out, GE428.out, NB405_428.out, NB428_405.out, NB406_428.out, NB428_406.out, NB411_428.out, NB428_411.out, NB415_428.out, NB428_415.out, (by repeat (first | (with_reducible first | exact HB.out | apply below_alloc | apply pw_below_drewN | apply below_drew1 | refine below_set ?_ GE405.out | refine below_set ?_ GE406.out | refine below_set ?_ GE411.out | refine below_set ?_ GE415.out | refine below_set ?_ GE428.out) | exact HB.out))⟩)
         ·skip
          refine box_step ?hg (N := 8) ?hd (cs := #[.bool false, .bool false, .slice none 0 0, .slice none 0 0]) (t := 30) ?hr ?_; (case hd => rfl); (case hg => rfl); (case hr => first | (go_simp; done) | (go_simp; rfl))
          intro gb428 hg w38 hbox hb
          have n0_ := Aside0.mk (Kd.R_below (by (with_reducible repeat (first | apply Kd.R_alloc | apply Kd.R_drewN | apply Kd.R_drew)); exact HO418.out) hb)
          have n1_ := Aside0.mk (blk_below (g := gb405) (o := .cells #[.int .u8 a0_0, .int .u8 a0_1, .int .u8 a0_2] 39 (0, 0)) (by (with_reducible repeat (first | refine blk_drewN ?_ _ | refine blk_drew ?_ | refine blk_alloc ?_ _)); exact BK405.out) hb)
          have n2_ := Aside0.mk (blk_below (g := gb406) (o := .cells #[.int .u8 a1_0, .int .u8 a1_1, .int .u8 a1_2] 39 (0, 0)) (by (with_reducible repeat (first | refine blk_drewN ?_ _ | refine blk_drew ?_ | refine blk_alloc ?_ _)); exact BK406.out) hb)
          have n3_ := Aside0.mk (blk_below (g := gb411) (o := .cells #[.int .i64 t408, .int .i64 t409, .int .i64 t410] 23 (0, 0)) (by (with_reducible repeat (first | refine blk_drewN ?_ _ | refine blk_drew ?_ | refine blk_alloc ?_ _)); exact BK411.out) hb)
          have n4_ := Aside0.mk (blk_below (g := gb415) (o := .cells #[.int .i64 t412, .int .i64 t413, .int .i64 t414] 23 (0, 0)) (by (with_reducible repeat (first | refine blk_drewN ?_ _ | refine blk_drew ?_ | refine blk_alloc ?_ _)); exact BK415.out) hb)
          have n5_ := Aside0.mk (below_step (by repeat (first | (with_reducible first | exact HB.out | apply below_alloc | apply pw_below_drewN | apply below_drew1 | refine below_set ?_ GE405.out | refine below_set ?_ GE406.out | refine below_set ?_ GE411.out | refine below_set ?_ GE415.out) | exact HB.out)) hb)
          have n6_ := Aside0.mk (hbox)
          have n7_ := Aside0.mk ((by rw [hg]; exact (below_size (by repeat (first | (with_reducible first | exact HB.out | apply below_alloc | apply pw_below_drewN | apply below_drew1 | refine below_set ?_ GE405.out | refine below_set ?_ GE406.out | refine below_set ?_ GE411.out | refine below_set ?_ GE415.out) | exact HB.out))) : w.heap.size ≤ gb428))
          have n8_ := Aside0.mk ((by rw [hg]; exact (below_size (by repeat (first | (with_reducible first | exact HB.out | apply below_alloc | apply pw_below_drewN | apply below_drew1 | refine below_set ?_ GE405.out | refine below_set ?_ GE406.out | refine below_set ?_ GE411.out | refine below_set ?_ GE415.out) | exact HB.out))) : w.heap.size ≤ gb428))
          have n9_ := Aside0.mk ((by rw [hg]; exact Nat.ne_of_lt (blk_lt (g := gb405) (o := .cells #[.int .u8 a0_0, .int .u8 a0_1, .int .u8 a0_2] 39 (0, 0)) (by (with_reducible repeat (first | refine blk_drewN ?_ _ | refine blk_drew ?_ | refine blk_alloc ?_ _)); exact BK405.out)) : gb405 ≠ gb428))
          have n10_ := Aside0.mk ((by rw [hg]; exact Nat.ne_of_gt (blk_lt (g := gb405) (o := .cells #[.int .u8 a0_0, .int .u8 a0_1, .int .u8 a0_2] 39 (0, 0)) (by (with_reducible repeat (first | refine blk_drewN ?_ _ | refine blk_drew ?_ | refine blk_alloc ?_ _)); exact BK405.out)) : gb428 ≠ gb405))
          have n11_ := Aside0.mk ((by rw [hg]; exact Nat.ne_of_lt (blk_lt (g := gb406) (o := .cells #[.int .u8 a1_0, .int .u8 a1_1, .int .u8 a1_2] 39 (0, 0)) (by (with_reducible repeat (first | refine blk_drewN ?_ _ | refine blk_drew ?_ | refine blk_alloc ?_ _)); exact BK406.out)) : gb406 ≠ gb428))
          have n12_ := Aside0.mk ((by rw [hg]; exact Nat.ne_of_gt (blk_lt (g := gb406) (o := .cells #[.int .u8 a1_0, .int .u8 a1_1, .int .u8 a1_2] 39 (0, 0)) (by (with_reducible repeat (first | refine blk_drewN ?_ _ | refine blk_drew ?_ | refine blk_alloc ?_ _)); exact BK406.out)) : gb428 ≠ gb406))
          have n13_ := Aside0.mk ((by rw [hg]; exact Nat.ne_of_lt (blk_lt (g := gb411) (o := .cells #[.int .i64 t408, .int .i64 t409, .int .i64 t410] 23 (0, 0)) (by (with_reducible repeat (first | refine blk_drewN ?_ _ | refine blk_drew ?_ | refine blk_alloc ?_ _)); exact BK411.out)) : gb411 ≠ gb428))
          have n14_ := Aside0.mk ((by rw [hg]; exact Nat.ne_of_gt (blk_lt (g := gb411) (o := .cells #[.int .i64 t408, .int .i64 t409, .int .i64 t410] 23 (0, 0)) (by (with_reducible repeat (first | refine blk_drewN ?_ _ | refine blk_drew ?_ | refine blk_alloc ?_ _)); exact BK411.out)) : gb428 ≠ gb411))
          have n15_ := Aside0.mk ((by rw [hg]; exact Nat.ne_of_lt (blk_lt (g := gb415) (o := .cells #[.int .i64 t412, .int .i64 t413, .int .i64 t414] 23 (0, 0)) (by (with_reducible repeat (first | refine blk_drewN ?_ _ | refine blk_drew ?_ | refine blk_alloc ?_ _)); exact BK415.out)) : gb415 ≠ gb428))
          have n16_ := Aside0.mk ((by rw [hg]; exact Nat.ne_of_gt (blk_lt (g := gb415) (o := .cells #[.int .i64 t412, .int .i64 t413, .int .i64 t414] 23 (0, 0)) (by (with_reducible repeat (first | refine blk_drewN ?_ _ | refine blk_drew ?_ | refine blk_alloc ?_ _)); exact BK415.out)) : gb428 ≠ gb415))
          clear HO418
          clear BK405
          clear BK406
          clear BK411
          clear BK415
          clear HB
          have HO418 := n0_
          have BK405 := n1_
          have BK406 := n2_
          have BK411 := n3_
          have BK415 := n4_
          have HB := n5_
          have BK428 := n6_
          have GW428 := n7_
          have GE428 := n8_
          have NB405_428 := n9_
          have NB428_405 := n10_
          have NB406_428 := n11_
          have NB428_406 := n12_
          have NB411_428 := n13_
          have NB428_411 := n14_
          have NB415_428 := n15_
          have NB428_415 := n16_
          clear n0_ n1_ n2_ n3_ n4_ n5_ n6_ n7_ n8_ n9_ n10_ n11_ n12_ n13_ n14_ n15_ n16_
          clear hb hbox hg
          obtain ⟨Ao39, co39, eo39⟩ := Kd.R_slice HO418.out
          (first | subst eo39 | (injection eo39 with f1_ f2_ f3_; have f4_ := f1_.symm; have f5_ := f3_.symm; clear f1_ f2_ f3_; subst f4_; subst f5_))
          refine hK.out _ _ ⟨(blk_cell BK411.out 0).trans rfl, (blk_cell BK411.out 1).trans rfl, (blk_cell BK411.out 2).trans rfl, (blk_cell BK415.out 0).trans rfl, (blk_cell BK415.out 1).trans rfl, (blk_cell BK415.out 2).trans rfl⟩ (fun hHeld => ?_)
          clear hK K
          refine norm_ (a' := ?_) ?_ ?_
          rotate_left
          ·show Act.put _ (some 8) _ = _
           simp only [Act.put, List.setIfInBounds_toArray, List.set_cons_zero, List.set_cons_succ, i64_w, i32_w]
           rfl
          refine one_ (i := 4) (N := some 22) #[true, true, true, true, true, false, false, false, true, false, false] rfl rfl (one_of HT_.out (by kernel_rfl)) (by decide) (fun K hK => ?_)
          refine goes_ Tryd.func8 (by kernel_rfl) rfl #[.string (⟨#[97, 98, 99]⟩ : ByteArray), .agg #[.int .i64 t408, .int .i64 t409, .int .i64 t410], .slice Ao39 t416.length co39, .agg #[.int .i64 t412, .int .i64 t413, .int .i64 t414]] (by rfl) rfl rfl (by (try simp only [List.map_toArray, List.map_cons, List.map_nil]); first | done | rfl | (simp only [List.length_drop, List.length_take]; rfl)) ?_
          with_reducible refine (plan_Of.calls k (⟨#[97, 98, 99]⟩ : ByteArray) t408 t409 t410 _ _ t416 t412 t413 t414 t419 t420 t421 t424 t427 _ ?side1 ?side2 A7.out).mono ?_
          (case side1 => repeat (first | exact (Kd.R_reads' HO418.out).2.2 | (with_reducible refine Kd.C_alloc ?_ _) | (with_reducible refine Kd.C_drewN ?_ _) | (with_reducible refine Kd.C_drew ?_)))
          (case side2 => exact (Kd.R_reads' HO418.out).2.1)
          rintro e w40 ⟨v422, v425, rfl, ho0, ho1, hb⟩
          refine ⟨_, rfl, ?_⟩
          have n0_ := Aside0.mk (Kd.R_below (by (with_reducible repeat (first | apply Kd.R_alloc | apply Kd.R_drewN | apply Kd.R_drew)); exact HO418.out) hb)
          have n1_ := Aside0.mk (Kd.R_lower ho0 (below_size (by repeat (first | (with_reducible first | exact HB.out | apply below_alloc | apply pw_below_drewN | apply below_drew1 | refine below_set ?_ GE405.out | refine below_set ?_ GE406.out | refine below_set ?_ GE411.out | refine below_set ?_ GE415.out | refine below_set ?_ GE428.out) | exact HB.out))))
          have n2_ := Aside0.mk (Kd.R_lower ho1 (below_size (by repeat (first | (with_reducible first | exact HB.out | apply below_alloc | apply pw_below_drewN | apply below_drew1 | refine below_set ?_ GE405.out | refine below_set ?_ GE406.out | refine below_set ?_ GE411.out | refine below_set ?_ GE415.out | refine below_set ?_ GE428.out) | exact HB.out))))
          have n3_ := Aside0.mk (blk_below (g := gb405) (o := .cells #[.int .u8 a0_0, .int .u8 a0_1, .int .u8 a0_2] 39 (0, 0)) (by (with_reducible repeat (first | refine blk_drewN ?_ _ | refine blk_drew ?_ | refine blk_alloc ?_ _)); exact BK405.out) hb)
          have n4_ := Aside0.mk (blk_below (g := gb406) (o := .cells #[.int .u8 a1_0, .int .u8 a1_1, .int .u8 a1_2] 39 (0, 0)) (by (with_reducible repeat (first | refine blk_drewN ?_ _ | refine blk_drew ?_ | refine blk_alloc ?_ _)); exact BK406.out) hb)
          have n5_ := Aside0.mk (blk_below (g := gb411) (o := .cells #[.int .i64 t408, .int .i64 t409, .int .i64 t410] 23 (0, 0)) (by (with_reducible repeat (first | refine blk_drewN ?_ _ | refine blk_drew ?_ | refine blk_alloc ?_ _)); exact BK411.out) hb)
          have n6_ := Aside0.mk (blk_below (g := gb415) (o := .cells #[.int .i64 t412, .int .i64 t413, .int .i64 t414] 23 (0, 0)) (by (with_reducible repeat (first | refine blk_drewN ?_ _ | refine blk_drew ?_ | refine blk_alloc ?_ _)); exact BK415.out) hb)
          have n7_ := Aside0.mk (blk_below (g := gb428) (o := .cells #[.bool false, .bool false, .slice none 0 0, .slice none 0 0] 30 (0, 0)) (by (with_reducible repeat (first | refine blk_drewN ?_ _ | refine blk_drew ?_ | refine blk_alloc ?_ _)); exact BK428.out) hb)
          have n8_ := Aside0.mk (below_step (by repeat (first | (with_reducible first | exact HB.out | apply below_alloc | apply pw_below_drewN | apply below_drew1 | refine below_set ?_ GE405.out | refine below_set ?_ GE406.out | refine below_set ?_ GE411.out | refine below_set ?_ GE415.out | refine below_set ?_ GE428.out) | exact HB.out)) hb)
          clear HO418
          clear BK405
          clear BK406
          clear BK411
          clear BK415
          clear BK428
          clear HB
          have HO418 := n0_
          have HO423 := n1_
          have HO426 := n2_
          have BK405 := n3_
          have BK406 := n4_
          have BK411 := n5_
          have BK415 := n6_
          have BK428 := n7_
          have HB := n8_
          clear n0_ n1_ n2_ n3_ n4_ n5_ n6_ n7_ n8_
          (try clear hb)
          (try clear hb2)
          (try clear hk)
          (try clear hi)
          (try clear ho0)
          (try clear ho1)
          refine hK.out _ _ ⟨(blk_cell BK411.out 0).trans rfl, (blk_cell BK411.out 1).trans rfl, (blk_cell BK411.out 2).trans rfl, (blk_cell BK415.out 0).trans rfl, (blk_cell BK415.out 1).trans rfl, (blk_cell BK415.out 2).trans rfl⟩ (fun hHeld => ?_)
          clear hK K
          refine norm_ (a' := ?_) ?_ ?_
          rotate_left
          ·show Act.put _ (some 22) _ = _
           simp only [Act.put, List.setIfInBounds_toArray, List.set_cons_zero, List.set_cons_succ, i64_w, i32_w]
           rfl
          refine pure_ (i := 5) (N := some 17) (v := ?_) (a' := ?_) #[true, true, true, true, true, true, false, false, true, false, false] rfl rfl (any_of HT_.out (by kernel_rfl)) (fun _ _ _ h => h) (Or.inl ⟨by rfl, ?_⟩) ?_ ?_
          rotate_left
          ·intro w'
           go_simp
           with_reducible rfl
          rotate_left
          ·simp only [Act.put, List.setIfInBounds_toArray, List.set_cons_zero, List.set_cons_succ, i64_w, i32_w]
           rfl
          refine pure_ (i := 6) (N := some 23) (v := ?_) (a' := ?_) #[true, true, true, true, true, true, true, false, true, false, false] rfl rfl (any_of HT_.out (by kernel_rfl)) (fun _ _ _ h => h) (Or.inl ⟨by rfl, ?_⟩) ?_ ?_
          rotate_left
          ·intro w'
           go_simp
           with_reducible rfl
          rotate_left
          ·simp only [Act.put, List.setIfInBounds_toArray, List.set_cons_zero, List.set_cons_succ, i64_w, i32_w]
           rfl
          refine pure_ (i := 7) (N := some 24) (v := ?_) (a' := ?_) #[true, true, true, true, true, true, true, true, true, false, false] rfl rfl (any_of HT_.out (by kernel_rfl)) (fun _ _ _ h => h) (Or.inl ⟨by rfl, ?_⟩) ?_ ?_
          rotate_left
          ·intro w'
           go_simp
           with_reducible rfl
          rotate_left
          ·simp only [Act.put, List.setIfInBounds_toArray, List.set_cons_zero, List.set_cons_succ, i64_w, i32_w]
           rfl
          exact norm_ (by simp only [putAll, Act.put, List.setIfInBounds_toArray, List.set_cons_zero, List.set_cons_succ]) (hCont (.slice Ao39 t416.length co39, v422, v425, gb428) _ ⟨hHeld, (by (with_reducible repeat (first | apply Kd.R_alloc | apply Kd.R_drewN | apply Kd.R_drew)); exact HO418.out), (by (with_reducible repeat (first | apply Kd.R_alloc | apply Kd.R_drewN | apply Kd.R_drew)); exact HO423.out), (by (with_reducible repeat (first | apply Kd.R_alloc | apply Kd.R_drewN | apply Kd.R_drew)); exact HO426.out), (by (with_reducible repeat (first | refine blk_drewN ?_ _ | refine blk_drew ?_ | refine blk_alloc ?_ _)); exact BK405.out), (by (with_reducible repeat (first | refine blk_drewN ?_ _ | refine blk_drew ?_ | refine blk_alloc ?_ _)); exact BK406.out), (by (with_reducible repeat (first | refine blk_drewN ?_ _ | refine blk_drew ?_ | refine blk_alloc ?_ _)); exact BK411.out), (by (with_reducible repeat (first | refine blk_drewN ?_ _ | refine blk_drew ?_ | refine blk_alloc ?_ _)); exact BK415.out), (by (with_reducible repeat (first | refine blk_drewN ?_ _ | refine blk_drew ?_ | refine blk_alloc ?_ _)); exact BK428.out), GW428.out, GE428.out, NB405_428.out, NB428_405.out, NB406_428.out, NB428_406.out, NB411_428.out, NB428_411.out, NB415_428.out, NB428_415.out, (by repeat (first | (with_reducible first | exact HB.out | apply below_alloc | apply pw_below_drewN | apply below_drew1 | refine below_set ?_ GE405.out | refine below_set ?_ GE406.out | refine below_set ?_ GE411.out | refine below_set ?_ GE415.out | refine below_set ?_ GE428.out) | exact HB.out))⟩)
        ·skip
         refine box_step ?hg (N := 8) ?hd (cs := #[.bool false, .bool false, .slice none 0 0, .slice none 0 0]) (t := 30) ?hr ?_; (case hd => rfl); (case hg => rfl); (case hr => first | (go_simp; done) | (go_simp; rfl))
         intro gb428 hg w37 hbox hb
         have n0_ := Aside0.mk (blk_below (g := gb405) (o := .cells #[.int .u8 a0_0, .int .u8 a0_1, .int .u8 a0_2] 39 (0, 0)) (by (with_reducible repeat (first | refine blk_drewN ?_ _ | refine blk_drew ?_ | refine blk_alloc ?_ _)); exact BK405.out) hb)
         have n1_ := Aside0.mk (blk_below (g := gb406) (o := .cells #[.int .u8 a1_0, .int .u8 a1_1, .int .u8 a1_2] 39 (0, 0)) (by (with_reducible repeat (first | refine blk_drewN ?_ _ | refine blk_drew ?_ | refine blk_alloc ?_ _)); exact BK406.out) hb)
         have n2_ := Aside0.mk (blk_below (g := gb411) (o := .cells #[.int .i64 t408, .int .i64 t409, .int .i64 t410] 23 (0, 0)) (by (with_reducible repeat (first | refine blk_drewN ?_ _ | refine blk_drew ?_ | refine blk_alloc ?_ _)); exact BK411.out) hb)
         have n3_ := Aside0.mk (blk_below (g := gb415) (o := .cells #[.int .i64 t412, .int .i64 t413, .int .i64 t414] 23 (0, 0)) (by (with_reducible repeat (first | refine blk_drewN ?_ _ | refine blk_drew ?_ | refine blk_alloc ?_ _)); exact BK415.out) hb)
         have n4_ := Aside0.mk (below_step (by repeat (first | (with_reducible first | exact HB.out | apply below_alloc | apply pw_below_drewN | apply below_drew1 | refine below_set ?_ GE405.out | refine below_set ?_ GE406.out | refine below_set ?_ GE411.out | refine below_set ?_ GE415.out) | exact HB.out)) hb)
         have n5_ := Aside0.mk (hbox)
         have n6_ := Aside0.mk ((by rw [hg]; exact (below_size (by repeat (first | (with_reducible first | exact HB.out | apply below_alloc | apply pw_below_drewN | apply below_drew1 | refine below_set ?_ GE405.out | refine below_set ?_ GE406.out | refine below_set ?_ GE411.out | refine below_set ?_ GE415.out) | exact HB.out))) : w.heap.size ≤ gb428))
         have n7_ := Aside0.mk ((by rw [hg]; exact (below_size (by repeat (first | (with_reducible first | exact HB.out | apply below_alloc | apply pw_below_drewN | apply below_drew1 | refine below_set ?_ GE405.out | refine below_set ?_ GE406.out | refine below_set ?_ GE411.out | refine below_set ?_ GE415.out) | exact HB.out))) : w.heap.size ≤ gb428))
         have n8_ := Aside0.mk ((by rw [hg]; exact Nat.ne_of_lt (blk_lt (g := gb405) (o := .cells #[.int .u8 a0_0, .int .u8 a0_1, .int .u8 a0_2] 39 (0, 0)) (by (with_reducible repeat (first | refine blk_drewN ?_ _ | refine blk_drew ?_ | refine blk_alloc ?_ _)); exact BK405.out)) : gb405 ≠ gb428))
         have n9_ := Aside0.mk ((by rw [hg]; exact Nat.ne_of_gt (blk_lt (g := gb405) (o := .cells #[.int .u8 a0_0, .int .u8 a0_1, .int .u8 a0_2] 39 (0, 0)) (by (with_reducible repeat (first | refine blk_drewN ?_ _ | refine blk_drew ?_ | refine blk_alloc ?_ _)); exact BK405.out)) : gb428 ≠ gb405))
         have n10_ := Aside0.mk ((by rw [hg]; exact Nat.ne_of_lt (blk_lt (g := gb406) (o := .cells #[.int .u8 a1_0, .int .u8 a1_1, .int .u8 a1_2] 39 (0, 0)) (by (with_reducible repeat (first | refine blk_drewN ?_ _ | refine blk_drew ?_ | refine blk_alloc ?_ _)); exact BK406.out)) : gb406 ≠ gb428))
         have n11_ := Aside0.mk ((by rw [hg]; exact Nat.ne_of_gt (blk_lt (g := gb406) (o := .cells #[.int .u8 a1_0, .int .u8 a1_1, .int .u8 a1_2] 39 (0, 0)) (by (with_reducible repeat (first | refine blk_drewN ?_ _ | refine blk_drew ?_ | refine blk_alloc ?_ _)); exact BK406.out)) : gb428 ≠ gb406))
         have n12_ := Aside0.mk ((by rw [hg]; exact Nat.ne_of_lt (blk_lt (g := gb411) (o := .cells #[.int .i64 t408, .int .i64 t409, .int .i64 t410] 23 (0, 0)) (by (with_reducible repeat (first | refine blk_drewN ?_ _ | refine blk_drew ?_ | refine blk_alloc ?_ _)); exact BK411.out)) : gb411 ≠ gb428))
         have n13_ := Aside0.mk ((by rw [hg]; exact Nat.ne_of_gt (blk_lt (g := gb411) (o := .cells #[.int .i64 t408, .int .i64 t409, .int .i64 t410] 23 (0, 0)) (by (with_reducible repeat (first | refine blk_drewN ?_ _ | refine blk_drew ?_ | refine blk_alloc ?_ _)); exact BK411.out)) : gb428 ≠ gb411))
         have n14_ := Aside0.mk ((by rw [hg]; exact Nat.ne_of_lt (blk_lt (g := gb415) (o := .cells #[.int .i64 t412, .int .i64 t413, .int .i64 t414] 23 (0, 0)) (by (with_reducible repeat (first | refine blk_drewN ?_ _ | refine blk_drew ?_ | refine blk_alloc ?_ _)); exact BK415.out)) : gb415 ≠ gb428))
         have n15_ := Aside0.mk ((by rw [hg]; exact Nat.ne_of_gt (blk_lt (g := gb415) (o := .cells #[.int .i64 t412, .int .i64 t413, .int .i64 t414] 23 (0, 0)) (by (with_reducible repeat (first | refine blk_drewN ?_ _ | refine blk_drew ?_ | refine blk_alloc ?_ _)); exact BK415.out)) : gb428 ≠ gb415))
         clear BK405
         clear BK406
         clear BK411
         clear BK415
         clear HB
         have BK405 := n0_
         have BK406 := n1_
         have BK411 := n2_
         have BK415 := n3_
         have HB := n4_
         have BK428 := n5_
         have GW428 := n6_
         have GE428 := n7_
         have NB405_428 := n8_
         have NB428_405 := n9_
         have NB406_428 := n10_
         have NB428_406 := n11_
         have NB411_428 := n12_
         have NB428_411 := n13_
         have NB415_428 := n14_
         have NB428_415 := n15_
         clear n0_ n1_ n2_ n3_ n4_ n5_ n6_ n7_ n8_ n9_ n10_ n11_ n12_ n13_ n14_ n15_
         clear hb hbox hg
         refine hK.out _ _ ⟨(blk_cell BK411.out 0).trans rfl, (blk_cell BK411.out 1).trans rfl, (blk_cell BK411.out 2).trans rfl, (blk_cell BK415.out 0).trans rfl, (blk_cell BK415.out 1).trans rfl, (blk_cell BK415.out 2).trans rfl⟩ (fun hHeld => ?_)
         clear hK K
         refine norm_ (a' := ?_) ?_ ?_
         rotate_left
         ·show Act.put _ (some 8) _ = _
          simp only [Act.put, List.setIfInBounds_toArray, List.set_cons_zero, List.set_cons_succ, i64_w, i32_w]
          rfl
         refine one_ (i := 2) (N := some 20) #[true, true, true, true, false, false, false, false, true, false, false] rfl rfl (one_of HT_.out (by kernel_rfl)) (by decide) (fun K hK => ?_)
         refine goes_ Tryd.func12 (by kernel_rfl) rfl #[.agg #[.int .i64 t408, .int .i64 t409, .int .i64 t410], .int .u8 15, .int .u8 0] (by rfl) rfl rfl (by (try simp only [List.map_toArray, List.map_cons, List.map_nil]); first | done | rfl | (simp only [List.length_drop, List.length_take]; rfl)) ?_
         with_reducible refine (gambrellaw22_states.calls k t408 t409 t410 15 0 t416 _ A6.out).mono ?_
         rintro e w38 ⟨v417, rfl, ho0, hb⟩
         refine ⟨_, rfl, ?_⟩
         have n0_ := Aside0.mk (Kd.R_lower ho0 (below_size (by repeat (first | (with_reducible first | exact HB.out | apply below_alloc | apply pw_below_drewN | apply below_drew1 | refine below_set ?_ GE405.out | refine below_set ?_ GE406.out | refine below_set ?_ GE411.out | refine below_set ?_ GE415.out | refine below_set ?_ GE428.out) | exact HB.out))))
         have n1_ := Aside0.mk (blk_below (g := gb405) (o := .cells #[.int .u8 a0_0, .int .u8 a0_1, .int .u8 a0_2] 39 (0, 0)) (by (with_reducible repeat (first | refine blk_drewN ?_ _ | refine blk_drew ?_ | refine blk_alloc ?_ _)); exact BK405.out) hb)
         have n2_ := Aside0.mk (blk_below (g := gb406) (o := .cells #[.int .u8 a1_0, .int .u8 a1_1, .int .u8 a1_2] 39 (0, 0)) (by (with_reducible repeat (first | refine blk_drewN ?_ _ | refine blk_drew ?_ | refine blk_alloc ?_ _)); exact BK406.out) hb)
         have n3_ := Aside0.mk (blk_below (g := gb411) (o := .cells #[.int .i64 t408, .int .i64 t409, .int .i64 t410] 23 (0, 0)) (by (with_reducible repeat (first | refine blk_drewN ?_ _ | refine blk_drew ?_ | refine blk_alloc ?_ _)); exact BK411.out) hb)
         have n4_ := Aside0.mk (blk_below (g := gb415) (o := .cells #[.int .i64 t412, .int .i64 t413, .int .i64 t414] 23 (0, 0)) (by (with_reducible repeat (first | refine blk_drewN ?_ _ | refine blk_drew ?_ | refine blk_alloc ?_ _)); exact BK415.out) hb)
         have n5_ := Aside0.mk (blk_below (g := gb428) (o := .cells #[.bool false, .bool false, .slice none 0 0, .slice none 0 0] 30 (0, 0)) (by (with_reducible repeat (first | refine blk_drewN ?_ _ | refine blk_drew ?_ | refine blk_alloc ?_ _)); exact BK428.out) hb)
         have n6_ := Aside0.mk (below_step (by repeat (first | (with_reducible first | exact HB.out | apply below_alloc | apply pw_below_drewN | apply below_drew1 | refine below_set ?_ GE405.out | refine below_set ?_ GE406.out | refine below_set ?_ GE411.out | refine below_set ?_ GE415.out | refine below_set ?_ GE428.out) | exact HB.out)) hb)
         clear BK405
         clear BK406
         clear BK411
         clear BK415
         clear BK428
         clear HB
         have HO418 := n0_
         have BK405 := n1_
         have BK406 := n2_
         have BK411 := n3_
         have BK415 := n4_
         have BK428 := n5_
         have HB := n6_
         clear n0_ n1_ n2_ n3_ n4_ n5_ n6_
         (try clear hb)
         (try clear hb2)
         (try clear hk)
         (try clear hi)
         (try clear ho0)
         obtain ⟨Ao39, co39, eo39⟩ := Kd.R_slice HO418.out
         (first | subst eo39 | (injection eo39 with f1_ f2_ f3_; have f4_ := f1_.symm; have f5_ := f3_.symm; clear f1_ f2_ f3_; subst f4_; subst f5_))
         refine hK.out _ _ ⟨(blk_cell BK411.out 0).trans rfl, (blk_cell BK411.out 1).trans rfl, (blk_cell BK411.out 2).trans rfl, (blk_cell BK415.out 0).trans rfl, (blk_cell BK415.out 1).trans rfl, (blk_cell BK415.out 2).trans rfl⟩ (fun hHeld => ?_)
         clear hK K
         refine norm_ (a' := ?_) ?_ ?_
         rotate_left
         ·show Act.put _ (some 20) _ = _
          simp only [Act.put, List.setIfInBounds_toArray, List.set_cons_zero, List.set_cons_succ, i64_w, i32_w]
          rfl
         refine one_ (i := 4) (N := some 22) #[true, true, true, true, true, false, false, false, true, false, false] rfl rfl (one_of HT_.out (by kernel_rfl)) (by decide) (fun K hK => ?_)
         refine goes_ Tryd.func8 (by kernel_rfl) rfl #[.string (⟨#[97, 98, 99]⟩ : ByteArray), .agg #[.int .i64 t408, .int .i64 t409, .int .i64 t410], .slice Ao39 t416.length co39, .agg #[.int .i64 t412, .int .i64 t413, .int .i64 t414]] (by rfl) rfl rfl (by (try simp only [List.map_toArray, List.map_cons, List.map_nil]); first | done | rfl | (simp only [List.length_drop, List.length_take]; rfl)) ?_
         with_reducible refine (plan_Of.calls k (⟨#[97, 98, 99]⟩ : ByteArray) t408 t409 t410 _ _ t416 t412 t413 t414 t419 t420 t421 t424 t427 _ ?side1 ?side2 A7.out).mono ?_
         (case side1 => repeat (first | exact (Kd.R_reads' HO418.out).2.2 | (with_reducible refine Kd.C_alloc ?_ _) | (with_reducible refine Kd.C_drewN ?_ _) | (with_reducible refine Kd.C_drew ?_)))
         (case side2 => exact (Kd.R_reads' HO418.out).2.1)
         rintro e w40 ⟨v422, v425, rfl, ho0, ho1, hb⟩
         refine ⟨_, rfl, ?_⟩
         have n0_ := Aside0.mk (Kd.R_below (by (with_reducible repeat (first | apply Kd.R_alloc | apply Kd.R_drewN | apply Kd.R_drew)); exact HO418.out) hb)
         have n1_ := Aside0.mk (Kd.R_lower ho0 (below_size (by repeat (first | (with_reducible first | exact HB.out | apply below_alloc | apply pw_below_drewN | apply below_drew1 | refine below_set ?_ GE405.out | refine below_set ?_ GE406.out | refine below_set ?_ GE411.out | refine below_set ?_ GE415.out | refine below_set ?_ GE428.out) | exact HB.out))))
         have n2_ := Aside0.mk (Kd.R_lower ho1 (below_size (by repeat (first | (with_reducible first | exact HB.out | apply below_alloc | apply pw_below_drewN | apply below_drew1 | refine below_set ?_ GE405.out | refine below_set ?_ GE406.out | refine below_set ?_ GE411.out | refine below_set ?_ GE415.out | refine below_set ?_ GE428.out) | exact HB.out))))
         have n3_ := Aside0.mk (blk_below (g := gb405) (o := .cells #[.int .u8 a0_0, .int .u8 a0_1, .int .u8 a0_2] 39 (0, 0)) (by (with_reducible repeat (first | refine blk_drewN ?_ _ | refine blk_drew ?_ | refine blk_alloc ?_ _)); exact BK405.out) hb)
         have n4_ := Aside0.mk (blk_below (g := gb406) (o := .cells #[.int .u8 a1_0, .int .u8 a1_1, .int .u8 a1_2] 39 (0, 0)) (by (with_reducible repeat (first | refine blk_drewN ?_ _ | refine blk_drew ?_ | refine blk_alloc ?_ _)); exact BK406.out) hb)
         have n5_ := Aside0.mk (blk_below (g := gb411) (o := .cells #[.int .i64 t408, .int .i64 t409, .int .i64 t410] 23 (0, 0)) (by (with_reducible repeat (first | refine blk_drewN ?_ _ | refine blk_drew ?_ | refine blk_alloc ?_ _)); exact BK411.out) hb)
         have n6_ := Aside0.mk (blk_below (g := gb415) (o := .cells #[.int .i64 t412, .int .i64 t413, .int .i64 t414] 23 (0, 0)) (by (with_reducible repeat (first | refine blk_drewN ?_ _ | refine blk_drew ?_ | refine blk_alloc ?_ _)); exact BK415.out) hb)
         have n7_ := Aside0.mk (blk_below (g := gb428) (o := .cells #[.bool false, .bool false, .slice none 0 0, .slice none 0 0] 30 (0, 0)) (by (with_reducible repeat (first | refine blk_drewN ?_ _ | refine blk_drew ?_ | refine blk_alloc ?_ _)); exact BK428.out) hb)
         have n8_ := Aside0.mk (below_step (by repeat (first | (with_reducible first | exact HB.out | apply below_alloc | apply pw_below_drewN | apply below_drew1 | refine below_set ?_ GE405.out | refine below_set ?_ GE406.out | refine below_set ?_ GE411.out | refine below_set ?_ GE415.out | refine below_set ?_ GE428.out) | exact HB.out)) hb)
         clear HO418
         clear BK405
         clear BK406
         clear BK411
         clear BK415
         clear BK428
         clear HB
         have HO418 := n0_
         have HO423 := n1_
         have HO426 := n2_
         have BK405 := n3_
         have BK406 := n4_
         have BK411 := n5_
         have BK415 := n6_
         have BK428 := n7_
         have HB := n8_
         clear n0_ n1_ n2_ n3_ n4_ n5_ n6_ n7_ n8_
         (try clear hb)
         (try clear hb2)
         (try clear hk)
         (try clear hi)
         (try clear ho0)
         (try clear ho1)
         refine hK.out _ _ ⟨(blk_cell BK411.out 0).trans rfl, (blk_cell BK411.out 1).trans rfl, (blk_cell BK411.out 2).trans rfl, (blk_cell BK415.out 0).trans rfl, (blk_cell BK415.out 1).trans rfl, (blk_cell BK415.out 2).trans rfl⟩ (fun hHeld => ?_)
         clear hK K
         refine norm_ (a' := ?_) ?_ ?_
         rotate_left
         ·show Act.put _ (some 22) _ = _
          simp only [Act.put, List.setIfInBounds_toArray, List.set_cons_zero, List.set_cons_succ, i64_w, i32_w]
          rfl
         refine pure_ (i := 5) (N := some 17) (v := ?_) (a' := ?_) #[true, true, true, true, true, true, false, false, true, false, false] rfl rfl (any_of HT_.out (by kernel_rfl)) (fun _ _ _ h => h) (Or.inl ⟨by rfl, ?_⟩) ?_ ?_
         rotate_left
         ·intro w'
          go_simp
          with_reducible rfl
         rotate_left
         ·simp only [Act.put, List.setIfInBounds_toArray, List.set_cons_zero, List.set_cons_succ, i64_w, i32_w]
          rfl
         refine pure_ (i := 6) (N := some 23) (v := ?_) (a' := ?_) #[true, true, true, true, true, true, true, false, true, false, false] rfl rfl (any_of HT_.out (by kernel_rfl)) (fun _ _ _ h => h) (Or.inl ⟨by rfl, ?_⟩) ?_ ?_
         rotate_left
         ·intro w'
          go_simp
          with_reducible rfl
         rotate_left
         ·simp only [Act.put, List.setIfInBounds_toArray, List.set_cons_zero, List.set_cons_succ, i64_w, i32_w]
          rfl
         refine pure_ (i := 7) (N := some 24) (v := ?_) (a' := ?_) #[true, true, true, true, true, true, true, true, true, false, false] rfl rfl (any_of HT_.out (by kernel_rfl)) (fun _ _ _ h => h) (Or.inl ⟨by rfl, ?_⟩) ?_ ?_
         rotate_left
         ·intro w'
          go_simp
          with_reducible rfl
         rotate_left
         ·simp only [Act.put, List.setIfInBounds_toArray, List.set_cons_zero, List.set_cons_succ, i64_w, i32_w]
          rfl
         exact norm_ (by simp only [putAll, Act.put, List.setIfInBounds_toArray, List.set_cons_zero, List.set_cons_succ]) (hCont (.slice Ao39 t416.length co39, v422, v425, gb428) _ ⟨hHeld, (by (with_reducible repeat (first | apply Kd.R_alloc | apply Kd.R_drewN | apply Kd.R_drew)); exact HO418.out), (by (with_reducible repeat (first | apply Kd.R_alloc | apply Kd.R_drewN | apply Kd.R_drew)); exact HO423.out), (by (with_reducible repeat (first | apply Kd.R_alloc | apply Kd.R_drewN | apply Kd.R_drew)); exact HO426.out), (by (with_reducible repeat (first | refine blk_drewN ?_ _ | refine blk_drew ?_ | refine blk_alloc ?_ _)); exact BK405.out), (by (with_reducible repeat (first | refine blk_drewN ?_ _ | refine blk_drew ?_ | refine blk_alloc ?_ _)); exact BK406.out), (by (with_reducible repeat (first | refine blk_drewN ?_ _ | refine blk_drew ?_ | refine blk_alloc ?_ _)); exact BK411.out), (by (with_reducible repeat (first | refine blk_drewN ?_ _ | refine blk_drew ?_ | refine blk_alloc ?_ _)); exact BK415.out), (by (with_reducible repeat (first | refine blk_drewN ?_ _ | refine blk_drew ?_ | refine blk_alloc ?_ _)); exact BK428.out), GW428.out, GE428.out, NB405_428.out, NB428_405.out, NB406_428.out, NB428_406.out, NB411_428.out, NB428_411.out, NB415_428.out, NB428_415.out, (by repeat (first | (with_reducible first | exact HB.out | apply below_alloc | apply pw_below_drewN | apply below_drew1 | refine below_set ?_ GE405.out | refine below_set ?_ GE406.out | refine below_set ?_ GE411.out | refine below_set ?_ GE415.out | refine below_set ?_ GE428.out) | exact HB.out))⟩)
       rintro ⟨v417, v422, v425, gb428⟩ w41 ⟨hS_, h0_, h1_, h2_, h3_, h4_, h5_, h6_, h7_, h8_, h9_, h10_, h11_, h12_, h13_, h14_, h15_, h16_, h17_, h18_⟩
       have n0_ : Aside0 (Kd.R (Kd.int .i64) 3 w41 w.heap.size (fun _ => True) v417 t416) := ⟨h0_⟩
       have n1_ : Aside0 (Kd.R Kd.string 9 w41 w.heap.size (fun k_ => some k_ ≠ (v425 : Value).ownBlock) v422 t421) := ⟨h1_⟩
       have n2_ : Aside0 (Kd.R Kd.string 9 w41 w.heap.size (fun k_ => some k_ ≠ (v422 : Value).ownBlock) v425 t424) := ⟨h2_⟩
       have n3_ : Aside0 (w41.heap[gb405]? = some (.cells #[.int .u8 a0_0, .int .u8 a0_1, .int .u8 a0_2] 39 (0, 0))) := ⟨h3_⟩
       have n4_ : Aside0 (w41.heap[gb406]? = some (.cells #[.int .u8 a1_0, .int .u8 a1_1, .int .u8 a1_2] 39 (0, 0))) := ⟨h4_⟩
       have n5_ : Aside0 (w41.heap[gb411]? = some (.cells #[.int .i64 t408, .int .i64 t409, .int .i64 t410] 23 (0, 0))) := ⟨h5_⟩
       have n6_ : Aside0 (w41.heap[gb415]? = some (.cells #[.int .i64 t412, .int .i64 t413, .int .i64 t414] 23 (0, 0))) := ⟨h6_⟩
       have n7_ : Aside0 (w41.heap[gb428]? = some (.cells #[.bool false, .bool false, .slice none 0 0, .slice none 0 0] 30 (0, 0))) := ⟨h7_⟩
       have n8_ : Aside0 (w.heap.size ≤ gb428) := ⟨h8_⟩
       have n9_ : Aside0 (w.heap.size ≤ gb428) := ⟨h9_⟩
       have n10_ : Aside0 (gb405 ≠ gb428) := ⟨h10_⟩
       have n11_ : Aside0 (gb428 ≠ gb405) := ⟨h11_⟩
       have n12_ : Aside0 (gb406 ≠ gb428) := ⟨h12_⟩
       have n13_ : Aside0 (gb428 ≠ gb406) := ⟨h13_⟩
       have n14_ : Aside0 (gb411 ≠ gb428) := ⟨h14_⟩
       have n15_ : Aside0 (gb428 ≠ gb411) := ⟨h15_⟩
       have n16_ : Aside0 (gb415 ≠ gb428) := ⟨h16_⟩
       have n17_ : Aside0 (gb428 ≠ gb415) := ⟨h17_⟩
       have n18_ : Aside0 (Below w.heap.size w w41) := ⟨h18_⟩
       clear BK405
       clear BK406
       clear BK411
       clear BK415
       clear HB
       clear h0_ h1_ h2_ h3_ h4_ h5_ h6_ h7_ h8_ h9_ h10_ h11_ h12_ h13_ h14_ h15_ h16_ h17_ h18_
       have HO418 := n0_
       have HO423 := n1_
       have HO426 := n2_
       have BK405 := n3_
       have BK406 := n4_
       have BK411 := n5_
       have BK415 := n6_
       have BK428 := n7_
       have GW428 := n8_
       have GE428 := n9_
       have NB405_428 := n10_
       have NB428_405 := n11_
       have NB406_428 := n12_
       have NB428_406 := n13_
       have NB411_428 := n14_
       have NB428_411 := n15_
       have NB415_428 := n16_
       have NB428_415 := n17_
       have HB := n18_
       clear n0_ n1_ n2_ n3_ n4_ n5_ n6_ n7_ n8_ n9_ n10_ n11_ n12_ n13_ n14_ n15_ n16_ n17_ n18_
       have hHeld : w41.cell? ⟨gb411, 0, none⟩ = some (.int .i64 t408) ∧ w41.cell? ⟨gb411, 1, none⟩ = some (.int .i64 t409) ∧ w41.cell? ⟨gb411, 2, none⟩ = some (.int .i64 t410) ∧ w41.cell? ⟨gb415, 0, none⟩ = some (.int .i64 t412) ∧ w41.cell? ⟨gb415, 1, none⟩ = some (.int .i64 t413) ∧ w41.cell? ⟨gb415, 2, none⟩ = some (.int .i64 t414) := hS_
       obtain ⟨Ao44, co44, eo44⟩ := Kd.R_slice HO423.out
       (first | subst eo44 | (injection eo44 with f1_ f2_ f3_; have f4_ := f1_.symm; have f5_ := f3_.symm; clear f1_ f2_ f3_; subst f4_; subst f5_))
       obtain ⟨Ao46, co46, eo46⟩ := Kd.R_slice HO426.out
       (first | subst eo46 | (injection eo46 with f1_ f2_ f3_; have f4_ := f1_.symm; have f5_ := f3_.symm; clear f1_ f2_ f3_; subst f4_; subst f5_))
       refine norm_ (a' := ?_) ?_ ?_
       rotate_left
       ·simp only [putAll, Act.put, List.setIfInBounds_toArray, List.set_cons_zero, List.set_cons_succ]
        rfl
       refine one_ (i := 9) (N := none) #[true, true, true, true, true, true, true, true, true, true, false] rfl rfl (one_of HT_.out (by kernel_rfl)) (by decide) (fun K hK => ?_)
       have hs42 : w41.cell? ⟨gb428, 0, none⟩ = some (.bool false) := (blk_cell BK428.out 0).trans rfl
       have hfs42 := blk_frozen BK428.out 0
       have hns42_0 := NB405_428.out
       have hns42_1 := NB406_428.out
       have hns42_2 := NB411_428.out
       have hns42_3 := NB415_428.out
       have hms42_0 := NB428_405.out
       have hms42_1 := NB428_406.out
       have hms42_2 := NB428_411.out
       have hms42_3 := NB428_415.out
       have hs43 : w41.cell? ⟨gb428, 1, none⟩ = some (.bool false) := (blk_cell BK428.out 1).trans rfl
       have hfs43 := blk_frozen BK428.out 1
       have hns43_0 := NB405_428.out
       have hns43_1 := NB406_428.out
       have hns43_2 := NB411_428.out
       have hns43_3 := NB415_428.out
       have hms43_0 := NB428_405.out
       have hms43_1 := NB428_406.out
       have hms43_2 := NB428_411.out
       have hms43_3 := NB428_415.out
       have hs45 : w41.cell? ⟨gb428, 2, none⟩ = some (.slice none 0 0) := (blk_cell BK428.out 2).trans rfl
       have hfs45 := blk_frozen BK428.out 2
       have hns45_0 := NB405_428.out
       have hns45_1 := NB406_428.out
       have hns45_2 := NB411_428.out
       have hns45_3 := NB415_428.out
       have hms45_0 := NB428_405.out
       have hms45_1 := NB428_406.out
       have hms45_2 := NB428_411.out
       have hms45_3 := NB428_415.out
       have hs47 : w41.cell? ⟨gb428, 3, none⟩ = some (.slice none 0 0) := (blk_cell BK428.out 3).trans rfl
       have hfs47 := blk_frozen BK428.out 3
       have hns47_0 := NB405_428.out
       have hns47_1 := NB406_428.out
       have hns47_2 := NB411_428.out
       have hns47_3 := NB415_428.out
       have hms47_0 := NB428_405.out
       have hms47_1 := NB428_406.out
       have hms47_2 := NB428_411.out
       have hms47_3 := NB428_415.out
       refine skip_ (w1 := ?_) (by rfl) rfl ?_ ?_
       rotate_left
       ·go_simp
        rfl
       refine hK.out _ _ ⟨((cell_far (p := ⟨gb428, _, none⟩) NB411_428.out _).trans (((cell_far (p := ⟨gb428, _, none⟩) NB411_428.out _).trans (((cell_far (p := ⟨gb428, _, none⟩) NB411_428.out _).trans (((cell_far (p := ⟨gb428, _, none⟩) NB411_428.out _).trans (hHeld.1)))))))), ((cell_far (p := ⟨gb428, _, none⟩) NB411_428.out _).trans (((cell_far (p := ⟨gb428, _, none⟩) NB411_428.out _).trans (((cell_far (p := ⟨gb428, _, none⟩) NB411_428.out _).trans (((cell_far (p := ⟨gb428, _, none⟩) NB411_428.out _).trans (hHeld.2.1)))))))), ((cell_far (p := ⟨gb428, _, none⟩) NB411_428.out _).trans (((cell_far (p := ⟨gb428, _, none⟩) NB411_428.out _).trans (((cell_far (p := ⟨gb428, _, none⟩) NB411_428.out _).trans (((cell_far (p := ⟨gb428, _, none⟩) NB411_428.out _).trans (hHeld.2.2.1)))))))), ((cell_far (p := ⟨gb428, _, none⟩) NB415_428.out _).trans (((cell_far (p := ⟨gb428, _, none⟩) NB415_428.out _).trans (((cell_far (p := ⟨gb428, _, none⟩) NB415_428.out _).trans (((cell_far (p := ⟨gb428, _, none⟩) NB415_428.out _).trans (hHeld.2.2.2.1)))))))), ((cell_far (p := ⟨gb428, _, none⟩) NB415_428.out _).trans (((cell_far (p := ⟨gb428, _, none⟩) NB415_428.out _).trans (((cell_far (p := ⟨gb428, _, none⟩) NB415_428.out _).trans (((cell_far (p := ⟨gb428, _, none⟩) NB415_428.out _).trans (hHeld.2.2.2.2.1)))))))), ((cell_far (p := ⟨gb428, _, none⟩) NB415_428.out _).trans (((cell_far (p := ⟨gb428, _, none⟩) NB415_428.out _).trans (((cell_far (p := ⟨gb428, _, none⟩) NB415_428.out _).trans (((cell_far (p := ⟨gb428, _, none⟩) NB415_428.out _).trans (hHeld.2.2.2.2.2))))))))⟩ (fun hHeld => ?_)
       clear hK K
       refine pure_ (i := 10) (N := some 9) (v := ?_) (a' := ?_) #[true, true, true, true, true, true, true, true, true, true, true] rfl rfl (any_of HT_.out (by kernel_rfl)) (fun _ _ _ h => h) (Or.inl ⟨by rfl, ?_⟩) ?_ ?_
       rotate_left
       ·intro w'
        go_simp
        with_reducible rfl
       rotate_left
       ·simp only [Act.put, List.setIfInBounds_toArray, List.set_cons_zero, List.set_cons_succ, i64_w, i32_w]
        rfl
       refine done_ (done_of HT_.out (by kernel_rfl)) ?_
       try go_wp2
       have n0_ : Aside0 (Kd.R (Kd.int .i64) 3 ((((w41.setCell ⟨gb428, 0, none⟩ (.bool t419)).setCell ⟨gb428, 1, none⟩ (.bool t420)).setCell ⟨gb428, 2, none⟩ (.slice Ao44 t421.length co44)).setCell ⟨gb428, 3, none⟩ (.slice Ao46 t424.length co46)) w.heap.size (fun _ => True) v417 t416) := ⟨by (with_reducible repeat (first | apply Kd.R_alloc | apply Kd.R_drewN | apply Kd.R_drew)); exact Kd.R_mono (Kd.R_far (p := ⟨gb428, 3, none⟩) (Kd.R_far (p := ⟨gb428, 2, none⟩) (Kd.R_far (p := ⟨gb428, 1, none⟩) (Kd.R_far (p := ⟨gb428, 0, none⟩) (Kd.R_types HO418.out BK428.out (by decide)) (fun _ hk => hk.2) (.bool t419)) (fun _ hk => hk.2) (.bool t420)) (fun _ hk => hk.2) (.slice Ao44 t421.length co44)) (fun _ hk => hk.2) (.slice Ao46 t424.length co46)) (fun _ hk => trivial)⟩
       have n1_ : Aside0 (Kd.R Kd.string 9 ((((w41.setCell ⟨gb428, 0, none⟩ (.bool t419)).setCell ⟨gb428, 1, none⟩ (.bool t420)).setCell ⟨gb428, 2, none⟩ (.slice Ao44 t421.length co44)).setCell ⟨gb428, 3, none⟩ (.slice Ao46 t424.length co46)) w.heap.size (fun k_ => some k_ ≠ (.slice Ao46 t424.length co46 : Value).ownBlock) (.slice Ao44 t421.length co44) t421) := ⟨by (with_reducible repeat (first | apply Kd.R_alloc | apply Kd.R_drewN | apply Kd.R_drew)); exact Kd.R_mono (Kd.R_far (p := ⟨gb428, 3, none⟩) (Kd.R_far (p := ⟨gb428, 2, none⟩) (Kd.R_far (p := ⟨gb428, 1, none⟩) (Kd.R_far (p := ⟨gb428, 0, none⟩) (Kd.R_types HO423.out BK428.out (by decide)) (fun _ hk => hk.2) (.bool t419)) (fun _ hk => hk.2) (.bool t420)) (fun _ hk => hk.2) (.slice Ao44 t421.length co44)) (fun _ hk => hk.2) (.slice Ao46 t424.length co46)) (fun _ hk => hk.1)⟩
       have n2_ : Aside0 (Kd.R Kd.string 9 ((((w41.setCell ⟨gb428, 0, none⟩ (.bool t419)).setCell ⟨gb428, 1, none⟩ (.bool t420)).setCell ⟨gb428, 2, none⟩ (.slice Ao44 t421.length co44)).setCell ⟨gb428, 3, none⟩ (.slice Ao46 t424.length co46)) w.heap.size (fun k_ => some k_ ≠ (.slice Ao44 t421.length co44 : Value).ownBlock) (.slice Ao46 t424.length co46) t424) := ⟨by (with_reducible repeat (first | apply Kd.R_alloc | apply Kd.R_drewN | apply Kd.R_drew)); exact Kd.R_mono (Kd.R_far (p := ⟨gb428, 3, none⟩) (Kd.R_far (p := ⟨gb428, 2, none⟩) (Kd.R_far (p := ⟨gb428, 1, none⟩) (Kd.R_far (p := ⟨gb428, 0, none⟩) (Kd.R_types HO426.out BK428.out (by decide)) (fun _ hk => hk.2) (.bool t419)) (fun _ hk => hk.2) (.bool t420)) (fun _ hk => hk.2) (.slice Ao44 t421.length co44)) (fun _ hk => hk.2) (.slice Ao46 t424.length co46)) (fun _ hk => hk.1)⟩
       have n3_ : Aside0 (((((w41.setCell ⟨gb428, 0, none⟩ (.bool t419)).setCell ⟨gb428, 1, none⟩ (.bool t420)).setCell ⟨gb428, 2, none⟩ (.slice Ao44 t421.length co44)).setCell ⟨gb428, 3, none⟩ (.slice Ao46 t424.length co46)).heap[gb405]? = some (.cells #[.int .u8 a0_0, .int .u8 a0_1, .int .u8 a0_2] 39 (0, 0))) := ⟨by (with_reducible repeat (first | refine blk_drewN ?_ _ | refine blk_drew ?_ | refine blk_alloc ?_ _)); refine blk_far ?_ NB405_428.out _; (with_reducible repeat (first | refine blk_drewN ?_ _ | refine blk_drew ?_ | refine blk_alloc ?_ _)); refine blk_far ?_ NB405_428.out _; (with_reducible repeat (first | refine blk_drewN ?_ _ | refine blk_drew ?_ | refine blk_alloc ?_ _)); refine blk_far ?_ NB405_428.out _; (with_reducible repeat (first | refine blk_drewN ?_ _ | refine blk_drew ?_ | refine blk_alloc ?_ _)); refine blk_far ?_ NB405_428.out _; (with_reducible repeat (first | refine blk_drewN ?_ _ | refine blk_drew ?_ | refine blk_alloc ?_ _)); exact BK405.out⟩
       have n4_ : Aside0 (((((w41.setCell ⟨gb428, 0, none⟩ (.bool t419)).setCell ⟨gb428, 1, none⟩ (.bool t420)).setCell ⟨gb428, 2, none⟩ (.slice Ao44 t421.length co44)).setCell ⟨gb428, 3, none⟩ (.slice Ao46 t424.length co46)).heap[gb406]? = some (.cells #[.int .u8 a1_0, .int .u8 a1_1, .int .u8 a1_2] 39 (0, 0))) := ⟨by (with_reducible repeat (first | refine blk_drewN ?_ _ | refine blk_drew ?_ | refine blk_alloc ?_ _)); refine blk_far ?_ NB406_428.out _; (with_reducible repeat (first | refine blk_drewN ?_ _ | refine blk_drew ?_ | refine blk_alloc ?_ _)); refine blk_far ?_ NB406_428.out _; (with_reducible repeat (first | refine blk_drewN ?_ _ | refine blk_drew ?_ | refine blk_alloc ?_ _)); refine blk_far ?_ NB406_428.out _; (with_reducible repeat (first | refine blk_drewN ?_ _ | refine blk_drew ?_ | refine blk_alloc ?_ _)); refine blk_far ?_ NB406_428.out _; (with_reducible repeat (first | refine blk_drewN ?_ _ | refine blk_drew ?_ | refine blk_alloc ?_ _)); exact BK406.out⟩
       have n5_ : Aside0 (((((w41.setCell ⟨gb428, 0, none⟩ (.bool t419)).setCell ⟨gb428, 1, none⟩ (.bool t420)).setCell ⟨gb428, 2, none⟩ (.slice Ao44 t421.length co44)).setCell ⟨gb428, 3, none⟩ (.slice Ao46 t424.length co46)).heap[gb411]? = some (.cells #[.int .i64 t408, .int .i64 t409, .int .i64 t410] 23 (0, 0))) := ⟨by (with_reducible repeat (first | refine blk_drewN ?_ _ | refine blk_drew ?_ | refine blk_alloc ?_ _)); refine blk_far ?_ NB411_428.out _; (with_reducible repeat (first | refine blk_drewN ?_ _ | refine blk_drew ?_ | refine blk_alloc ?_ _)); refine blk_far ?_ NB411_428.out _; (with_reducible repeat (first | refine blk_drewN ?_ _ | refine blk_drew ?_ | refine blk_alloc ?_ _)); refine blk_far ?_ NB411_428.out _; (with_reducible repeat (first | refine blk_drewN ?_ _ | refine blk_drew ?_ | refine blk_alloc ?_ _)); refine blk_far ?_ NB411_428.out _; (with_reducible repeat (first | refine blk_drewN ?_ _ | refine blk_drew ?_ | refine blk_alloc ?_ _)); exact BK411.out⟩
       have n6_ : Aside0 (((((w41.setCell ⟨gb428, 0, none⟩ (.bool t419)).setCell ⟨gb428, 1, none⟩ (.bool t420)).setCell ⟨gb428, 2, none⟩ (.slice Ao44 t421.length co44)).setCell ⟨gb428, 3, none⟩ (.slice Ao46 t424.length co46)).heap[gb415]? = some (.cells #[.int .i64 t412, .int .i64 t413, .int .i64 t414] 23 (0, 0))) := ⟨by (with_reducible repeat (first | refine blk_drewN ?_ _ | refine blk_drew ?_ | refine blk_alloc ?_ _)); refine blk_far ?_ NB415_428.out _; (with_reducible repeat (first | refine blk_drewN ?_ _ | refine blk_drew ?_ | refine blk_alloc ?_ _)); refine blk_far ?_ NB415_428.out _; (with_reducible repeat (first | refine blk_drewN ?_ _ | refine blk_drew ?_ | refine blk_alloc ?_ _)); refine blk_far ?_ NB415_428.out _; (with_reducible repeat (first | refine blk_drewN ?_ _ | refine blk_drew ?_ | refine blk_alloc ?_ _)); refine blk_far ?_ NB415_428.out _; (with_reducible repeat (first | refine blk_drewN ?_ _ | refine blk_drew ?_ | refine blk_alloc ?_ _)); exact BK415.out⟩
       have n7_ : Aside0 (((((w41.setCell ⟨gb428, 0, none⟩ (.bool t419)).setCell ⟨gb428, 1, none⟩ (.bool t420)).setCell ⟨gb428, 2, none⟩ (.slice Ao44 t421.length co44)).setCell ⟨gb428, 3, none⟩ (.slice Ao46 t424.length co46)).heap[gb428]? = some (.cells #[.bool t419, .bool t420, .slice Ao44 t421.length co44, .slice Ao46 t424.length co46] 30 (0, 0))) := ⟨by (with_reducible repeat (first | refine blk_drewN ?_ _ | refine blk_drew ?_ | refine blk_alloc ?_ _)); refine blk_put (cs := #[.bool t419, .bool t420, .slice Ao44 t421.length co44, .slice none 0 0]) ?_ 3 _ rfl; (with_reducible repeat (first | refine blk_drewN ?_ _ | refine blk_drew ?_ | refine blk_alloc ?_ _)); refine blk_put (cs := #[.bool t419, .bool t420, .slice none 0 0, .slice none 0 0]) ?_ 2 _ rfl; (with_reducible repeat (first | refine blk_drewN ?_ _ | refine blk_drew ?_ | refine blk_alloc ?_ _)); refine blk_put (cs := #[.bool t419, .bool false, .slice none 0 0, .slice none 0 0]) ?_ 1 _ rfl; (with_reducible repeat (first | refine blk_drewN ?_ _ | refine blk_drew ?_ | refine blk_alloc ?_ _)); refine blk_put (cs := #[.bool false, .bool false, .slice none 0 0, .slice none 0 0]) ?_ 0 _ rfl; (with_reducible repeat (first | refine blk_drewN ?_ _ | refine blk_drew ?_ | refine blk_alloc ?_ _)); exact BK428.out⟩
       have n8_ : Aside0 (Below w.heap.size w ((((w41.setCell ⟨gb428, 0, none⟩ (.bool t419)).setCell ⟨gb428, 1, none⟩ (.bool t420)).setCell ⟨gb428, 2, none⟩ (.slice Ao44 t421.length co44)).setCell ⟨gb428, 3, none⟩ (.slice Ao46 t424.length co46))) := ⟨by repeat (first | (with_reducible first | exact HB.out | apply below_alloc | apply pw_below_drewN | apply below_drew1 | refine below_set ?_ GE405.out | refine below_set ?_ GE406.out | refine below_set ?_ GE411.out | refine below_set ?_ GE415.out | refine below_set ?_ GE428.out) | exact HB.out)⟩
       (try clear HO418)
       (try clear HO423)
       (try clear HO426)
       (try clear BK405)
       (try clear BK406)
       (try clear BK411)
       (try clear BK415)
       (try clear BK428)
       (try clear HB)
       generalize ((((w41.setCell ⟨gb428, 0, none⟩ (.bool t419)).setCell ⟨gb428, 1, none⟩ (.bool t420)).setCell ⟨gb428, 2, none⟩ (.slice Ao44 t421.length co44)).setCell ⟨gb428, 3, none⟩ (.slice Ao46 t424.length co46)) = w48 at n0_ n1_ n2_ n3_ n4_ n5_ n6_ n7_ n8_ ⊢
       have HO418 := n0_
       have HO423 := n1_
       have HO426 := n2_
       have BK405 := n3_
       have BK406 := n4_
       have BK411 := n5_
       have BK415 := n6_
       have BK428 := n7_
       have HB := n8_
       clear n0_ n1_ n2_ n3_ n4_ n5_ n6_ n7_ n8_
       have n0_ := Aside0.mk (Kd.R_drew HO418.out)
       have n1_ := Aside0.mk (Kd.R_drew HO423.out)
       have n2_ := Aside0.mk (Kd.R_drew HO426.out)
       have n3_ := Aside0.mk (blk_drew BK405.out)
       have n4_ := Aside0.mk (blk_drew BK406.out)
       have n5_ := Aside0.mk (blk_drew BK411.out)
       have n6_ := Aside0.mk (blk_drew BK415.out)
       have n7_ := Aside0.mk (blk_drew BK428.out)
       have n8_ := Aside0.mk (below_drew1 HB.out)
       clear HO418
       clear HO423
       clear HO426
       clear BK405
       clear BK406
       clear BK411
       clear BK415
       clear BK428
       clear HB
       have HO418 := n0_
       have HO423 := n1_
       have HO426 := n2_
       have BK405 := n3_
       have BK406 := n4_
       have BK411 := n5_
       have BK415 := n6_
       have BK428 := n7_
       have HB := n8_
       clear n0_ n1_ n2_ n3_ n4_ n5_ n6_ n7_ n8_
       refine start_ (n := 11) (S := fun w' => w'.cell? ⟨gb415, 0, none⟩ = some (.int .i64 t412) ∧ w'.cell? ⟨gb415, 1, none⟩ = some (.int .i64 t413) ∧ w'.cell? ⟨gb415, 2, none⟩ = some (.int .i64 t414) ∧ w'.cell? ⟨gb411, 0, none⟩ = some (.int .i64 t408) ∧ w'.cell? ⟨gb411, 1, none⟩ = some (.int .i64 t409) ∧ w'.cell? ⟨gb411, 2, none⟩ = some (.int .i64 t410)) (ds := []) #[false, false, false, false, false, false, false, false, false, false, false] (by kernel_rfl) rfl rfl ⟨(blk_cell BK415.out 0).trans rfl, (blk_cell BK415.out 1).trans rfl, (blk_cell BK415.out 2).trans rfl, (blk_cell BK411.out 0).trans rfl, (blk_cell BK411.out 1).trans rfl, (blk_cell BK411.out 2).trans rfl⟩ (fun hHeld => ?_); refine with_tabW gambrellaw22_PlanBack.tab5 gambrellaw22_PlanBack.bits5 (fun HT_ HW_ => ?_)
       generalize w48.drew = w49 at HO418 HO423 HO426 BK405 BK406 BK411 BK415 BK428 HB hHeld ⊢
       refine take_ (i := 0) (N := some 26) (v := ?_) (a' := ?_) #[true, false, false, false, false, false, false, false, false, false, false] rfl rfl (take_ofW HT_.out HW_.out (by kernel_rfl)) (fun _ _ _ h => h) (Or.inl ⟨by rfl, ?_⟩) hHeld ?_ ?_
       rotate_left
       ·rintro w' ⟨s0, s1, s2, s3, s4, s5⟩
        go_simp
        with_reducible rfl
       rotate_left
       ·simp only [Act.put, List.setIfInBounds_toArray, List.set_cons_zero, List.set_cons_succ, i64_w, i32_w]
        rfl
       refine take_ (i := 1) (N := some 27) (v := ?_) (a' := ?_) #[true, true, false, false, false, false, false, false, false, false, false] rfl rfl (take_ofW HT_.out HW_.out (by kernel_rfl)) (fun _ _ _ h => h) (Or.inl ⟨by rfl, ?_⟩) hHeld ?_ ?_
       rotate_left
       ·rintro w' ⟨s0, s1, s2, s3, s4, s5⟩
        go_simp
        with_reducible rfl
       rotate_left
       ·simp only [Act.put, List.setIfInBounds_toArray, List.set_cons_zero, List.set_cons_succ, i64_w, i32_w]
        rfl
       refine take_ (i := 3) (N := some 29) (v := ?_) (a' := ?_) #[true, true, false, true, false, false, false, false, false, false, false] rfl rfl (take_ofW HT_.out HW_.out (by kernel_rfl)) (fun _ _ _ h => h) (Or.inl ⟨by rfl, ?_⟩) hHeld ?_ ?_
       rotate_left
       ·rintro w' ⟨s0, s1, s2, s3, s4, s5⟩
        go_simp
        with_reducible rfl
       rotate_left
       ·simp only [Act.put, List.setIfInBounds_toArray, List.set_cons_zero, List.set_cons_succ, i64_w, i32_w]
        rfl
       refine join_ (σ := Value × Value × Value × Nat) 2 #[true, true, true, true, true, true, true, true, true, false, false] (fun s_ => [(28, s_.1), (30, .tuple #[.agg #[.bool t432, .bool t433, s_.2.1, s_.2.2.1], .int .i64 t440]), (10, .pointer (some ⟨s_.2.2.2, 0, none⟩)), (25, .tuple #[.agg #[.bool t432, .bool t433, s_.2.1, s_.2.2.1], .int .i64 t440]), (31, .agg #[.bool t432, .bool t433, s_.2.1, s_.2.2.1]), (32, .int .i64 t440)]) (fun s_ w' => (w'.cell? ⟨gb415, 0, none⟩ = some (.int .i64 t412) ∧ w'.cell? ⟨gb415, 1, none⟩ = some (.int .i64 t413) ∧ w'.cell? ⟨gb415, 2, none⟩ = some (.int .i64 t414) ∧ w'.cell? ⟨gb411, 0, none⟩ = some (.int .i64 t408) ∧ w'.cell? ⟨gb411, 1, none⟩ = some (.int .i64 t409) ∧ w'.cell? ⟨gb411, 2, none⟩ = some (.int .i64 t410)) ∧ (Kd.R (Kd.int .i64) 3 w' w.heap.size (fun k_ => some k_ ≠ (s_.1 : Value).ownBlock) v417 t416) ∧ (Kd.R Kd.string 9 w' w.heap.size (fun k_ => some k_ ≠ (.slice Ao46 t424.length co46 : Value).ownBlock ∧ some k_ ≠ (s_.2.1 : Value).ownBlock ∧ some k_ ≠ (s_.2.2.1 : Value).ownBlock) (.slice Ao44 t421.length co44) t421) ∧ (Kd.R Kd.string 9 w' w.heap.size (fun k_ => some k_ ≠ (.slice Ao44 t421.length co44 : Value).ownBlock ∧ some k_ ≠ (s_.2.1 : Value).ownBlock ∧ some k_ ≠ (s_.2.2.1 : Value).ownBlock) (.slice Ao46 t424.length co46) t424) ∧ (Kd.R (Kd.int .i64) 3 w' w.heap.size (fun k_ => some k_ ≠ (v417 : Value).ownBlock) s_.1 t429) ∧ (Kd.R Kd.string 9 w' w.heap.size (fun k_ => some k_ ≠ (.slice Ao44 t421.length co44 : Value).ownBlock ∧ some k_ ≠ (.slice Ao46 t424.length co46 : Value).ownBlock ∧ some k_ ≠ (s_.2.2.1 : Value).ownBlock) s_.2.1 t434) ∧ (Kd.R Kd.string 9 w' w.heap.size (fun k_ => some k_ ≠ (.slice Ao44 t421.length co44 : Value).ownBlock ∧ some k_ ≠ (.slice Ao46 t424.length co46 : Value).ownBlock ∧ some k_ ≠ (s_.2.1 : Value).ownBlock) s_.2.2.1 t437) ∧ (w'.heap[gb405]? = some (.cells #[.int .u8 a0_0, .int .u8 a0_1, .int .u8 a0_2] 39 (0, 0))) ∧ (w'.heap[gb406]? = some (.cells #[.int .u8 a1_0, .int .u8 a1_1, .int .u8 a1_2] 39 (0, 0))) ∧ (w'.heap[gb411]? = some (.cells #[.int .i64 t408, .int .i64 t409, .int .i64 t410] 23 (0, 0))) ∧ (w'.heap[gb415]? = some (.cells #[.int .i64 t412, .int .i64 t413, .int .i64 t414] 23 (0, 0))) ∧ (w'.heap[gb428]? = some (.cells #[.bool t419, .bool t420, .slice Ao44 t421.length co44, .slice Ao46 t424.length co46] 30 (0, 0))) ∧ (w'.heap[s_.2.2.2]? = some (.cells #[.bool false, .bool false, .slice none 0 0, .slice none 0 0] 30 (0, 0))) ∧ (w.heap.size ≤ s_.2.2.2) ∧ (w.heap.size ≤ s_.2.2.2) ∧ (gb405 ≠ s_.2.2.2) ∧ (s_.2.2.2 ≠ gb405) ∧ (gb406 ≠ s_.2.2.2) ∧ (s_.2.2.2 ≠ gb406) ∧ (gb411 ≠ s_.2.2.2) ∧ (s_.2.2.2 ≠ gb411) ∧ (gb415 ≠ s_.2.2.2) ∧ (s_.2.2.2 ≠ gb415) ∧ (gb428 ≠ s_.2.2.2) ∧ (s_.2.2.2 ≠ gb428) ∧ (Below w.heap.size w w')) ?_ ?_
       rotate_left
       ·intro hCont
        refine two_ (i := 2) (j := 8) (Ni := some 28) (Nj := some 10) #[true, true, true, true, false, false, false, false, false, false, false] #[true, true, false, true, false, false, false, false, true, false, false] rfl rfl rfl rfl (two_of HT_.out (by kernel_rfl)) (by decide) (by decide) (fun K hK => ?_) (fun K hK => ?_)
        ·skip
         refine goes_ Tryd.func12 (by kernel_rfl) rfl #[.agg #[.int .i64 t412, .int .i64 t413, .int .i64 t414], .int .u8 15, .int .u8 0] (by rfl) rfl rfl (by (try simp only [List.map_toArray, List.map_cons, List.map_nil]); first | done | rfl | (simp only [List.length_drop, List.length_take]; rfl)) ?_
         with_reducible refine (gambrellaw22_states.calls k t412 t413 t414 15 0 t429 _ A8.out).mono ?_
         rintro e w50 ⟨v430, rfl, ho0, hb⟩
         refine ⟨_, rfl, ?_⟩
         have n0_ := Aside0.mk (Kd.R_elder' (by (with_reducible repeat (first | apply Kd.R_alloc | apply Kd.R_drewN | apply Kd.R_drew)); exact HO418.out) (Kd.R_base ho0) hb)
         have n1_ := Aside0.mk (Kd.R_below (by (with_reducible repeat (first | apply Kd.R_alloc | apply Kd.R_drewN | apply Kd.R_drew)); exact HO423.out) hb)
         have n2_ := Aside0.mk (Kd.R_below (by (with_reducible repeat (first | apply Kd.R_alloc | apply Kd.R_drewN | apply Kd.R_drew)); exact HO426.out) hb)
         have n3_ := Aside0.mk (Kd.R_lower (Kd.R_new' ho0 (Kd.R_lt (by (with_reducible repeat (first | apply Kd.R_alloc | apply Kd.R_drewN | apply Kd.R_drew)); exact HO418.out))) (below_size (by repeat (first | (with_reducible first | exact HB.out | apply below_alloc | apply pw_below_drewN | apply below_drew1 | refine below_set ?_ GE405.out | refine below_set ?_ GE406.out | refine below_set ?_ GE411.out | refine below_set ?_ GE415.out | refine below_set ?_ GE428.out) | exact HB.out))))
         have n4_ := Aside0.mk (blk_below (g := gb405) (o := .cells #[.int .u8 a0_0, .int .u8 a0_1, .int .u8 a0_2] 39 (0, 0)) (by (with_reducible repeat (first | refine blk_drewN ?_ _ | refine blk_drew ?_ | refine blk_alloc ?_ _)); exact BK405.out) hb)
         have n5_ := Aside0.mk (blk_below (g := gb406) (o := .cells #[.int .u8 a1_0, .int .u8 a1_1, .int .u8 a1_2] 39 (0, 0)) (by (with_reducible repeat (first | refine blk_drewN ?_ _ | refine blk_drew ?_ | refine blk_alloc ?_ _)); exact BK406.out) hb)
         have n6_ := Aside0.mk (blk_below (g := gb411) (o := .cells #[.int .i64 t408, .int .i64 t409, .int .i64 t410] 23 (0, 0)) (by (with_reducible repeat (first | refine blk_drewN ?_ _ | refine blk_drew ?_ | refine blk_alloc ?_ _)); exact BK411.out) hb)
         have n7_ := Aside0.mk (blk_below (g := gb415) (o := .cells #[.int .i64 t412, .int .i64 t413, .int .i64 t414] 23 (0, 0)) (by (with_reducible repeat (first | refine blk_drewN ?_ _ | refine blk_drew ?_ | refine blk_alloc ?_ _)); exact BK415.out) hb)
         have n8_ := Aside0.mk (blk_below (g := gb428) (o := .cells #[.bool t419, .bool t420, .slice Ao44 t421.length co44, .slice Ao46 t424.length co46] 30 (0, 0)) (by (with_reducible repeat (first | refine blk_drewN ?_ _ | refine blk_drew ?_ | refine blk_alloc ?_ _)); exact BK428.out) hb)
         have n9_ := Aside0.mk (below_step (by repeat (first | (with_reducible first | exact HB.out | apply below_alloc | apply pw_below_drewN | apply below_drew1 | refine below_set ?_ GE405.out | refine below_set ?_ GE406.out | refine below_set ?_ GE411.out | refine below_set ?_ GE415.out | refine below_set ?_ GE428.out) | exact HB.out)) hb)
         clear HO418
         clear HO423
         clear HO426
         clear BK405
         clear BK406
         clear BK411
         clear BK415
         clear BK428
         clear HB
         have HO418 := n0_
         have HO423 := n1_
         have HO426 := n2_
         have HO431 := n3_
         have BK405 := n4_
         have BK406 := n5_
         have BK411 := n6_
         have BK415 := n7_
         have BK428 := n8_
         have HB := n9_
         clear n0_ n1_ n2_ n3_ n4_ n5_ n6_ n7_ n8_ n9_
         (try clear hb)
         (try clear hb2)
         (try clear hk)
         (try clear hi)
         (try clear ho0)
         obtain ⟨Ao51, co51, eo51⟩ := Kd.R_slice HO431.out
         (first | subst eo51 | (injection eo51 with f1_ f2_ f3_; have f4_ := f1_.symm; have f5_ := f3_.symm; clear f1_ f2_ f3_; subst f4_; subst f5_))
         refine hK.out _ _ ⟨(blk_cell BK415.out 0).trans rfl, (blk_cell BK415.out 1).trans rfl, (blk_cell BK415.out 2).trans rfl, (blk_cell BK411.out 0).trans rfl, (blk_cell BK411.out 1).trans rfl, (blk_cell BK411.out 2).trans rfl⟩ (fun hHeld => ?_)
         clear hK K
         refine norm_ (a' := ?_) ?_ ?_
         rotate_left
         ·show Act.put _ (some 28) _ = _
          simp only [Act.put, List.setIfInBounds_toArray, List.set_cons_zero, List.set_cons_succ, i64_w, i32_w]
          rfl
         refine two_ (i := 4) (j := 8) (Ni := some 30) (Nj := some 10) #[true, true, true, true, true, false, false, false, false, false, false] #[true, true, true, true, false, false, false, false, true, false, false] rfl rfl rfl rfl (two_of HT_.out (by kernel_rfl)) (by decide) (by decide) (fun K hK => ?_) (fun K hK => ?_)
         ·skip
          refine goes_ Tryd.func8 (by kernel_rfl) rfl #[.string (⟨#[97, 98, 99]⟩ : ByteArray), .agg #[.int .i64 t412, .int .i64 t413, .int .i64 t414], .slice Ao51 t429.length co51, .agg #[.int .i64 t408, .int .i64 t409, .int .i64 t410]] (by rfl) rfl rfl (by (try simp only [List.map_toArray, List.map_cons, List.map_nil]); first | done | rfl | (simp only [List.length_drop, List.length_take]; rfl)) ?_
          with_reducible refine (plan_Of.calls k (⟨#[97, 98, 99]⟩ : ByteArray) t412 t413 t414 _ _ t429 t408 t409 t410 t432 t433 t434 t437 t440 _ ?side1 ?side2 A9.out).mono ?_
          (case side1 => repeat (first | exact (Kd.R_reads' HO431.out).2.2 | (with_reducible refine Kd.C_alloc ?_ _) | (with_reducible refine Kd.C_drewN ?_ _) | (with_reducible refine Kd.C_drew ?_)))
          (case side2 => exact (Kd.R_reads' HO431.out).2.1)
          rintro e w52 ⟨v435, v438, rfl, ho0, ho1, hb⟩
          refine ⟨_, rfl, ?_⟩
          have n0_ := Aside0.mk (Kd.R_below (by (with_reducible repeat (first | apply Kd.R_alloc | apply Kd.R_drewN | apply Kd.R_drew)); exact HO418.out) hb)
          have n1_ := Aside0.mk (Kd.R_mono (Kd.R_told (Kd.R_told (Kd.R_old (by (with_reducible repeat (first | apply Kd.R_alloc | apply Kd.R_drewN | apply Kd.R_drew)); exact HO423.out) hb) (Kd.R_base ho0)) (Kd.R_base ho1)) (fun _ h_ => h_.1))
          have n2_ := Aside0.mk (Kd.R_mono (Kd.R_told (Kd.R_told (Kd.R_old (by (with_reducible repeat (first | apply Kd.R_alloc | apply Kd.R_drewN | apply Kd.R_drew)); exact HO426.out) hb) (Kd.R_base ho0)) (Kd.R_base ho1)) (fun _ h_ => h_.1))
          have n3_ := Aside0.mk (Kd.R_below (by (with_reducible repeat (first | apply Kd.R_alloc | apply Kd.R_drewN | apply Kd.R_drew)); exact HO431.out) hb)
          have n4_ := Aside0.mk (Kd.R_lower (Kd.R_new' (Kd.R_new' ho0 (Kd.R_lt (by (with_reducible repeat (first | apply Kd.R_alloc | apply Kd.R_drewN | apply Kd.R_drew)); exact HO423.out))) (Kd.R_lt (by (with_reducible repeat (first | apply Kd.R_alloc | apply Kd.R_drewN | apply Kd.R_drew)); exact HO426.out))) (below_size (by repeat (first | (with_reducible first | exact HB.out | apply below_alloc | apply pw_below_drewN | apply below_drew1 | refine below_set ?_ GE405.out | refine below_set ?_ GE406.out | refine below_set ?_ GE411.out | refine below_set ?_ GE415.out | refine below_set ?_ GE428.out) | exact HB.out))))
          have n5_ := Aside0.mk (Kd.R_lower (Kd.R_new' (Kd.R_new' ho1 (Kd.R_lt (by (with_reducible repeat (first | apply Kd.R_alloc | apply Kd.R_drewN | apply Kd.R_drew)); exact HO423.out))) (Kd.R_lt (by (with_reducible repeat (first | apply Kd.R_alloc | apply Kd.R_drewN | apply Kd.R_drew)); exact HO426.out))) (below_size (by repeat (first | (with_reducible first | exact HB.out | apply below_alloc | apply pw_below_drewN | apply below_drew1 | refine below_set ?_ GE405.out | refine below_set ?_ GE406.out | refine below_set ?_ GE411.out | refine below_set ?_ GE415.out | refine below_set ?_ GE428.out) | exact HB.out))))
          have n6_ := Aside0.mk (blk_below (g := gb405) (o := .cells #[.int .u8 a0_0, .int .u8 a0_1, .int .u8 a0_2] 39 (0, 0)) (by (with_reducible repeat (first | refine blk_drewN ?_ _ | refine blk_drew ?_ | refine blk_alloc ?_ _)); exact BK405.out) hb)
          have n7_ := Aside0.mk (blk_below (g := gb406) (o := .cells #[.int .u8 a1_0, .int .u8 a1_1, .int .u8 a1_2] 39 (0, 0)) (by (with_reducible repeat (first | refine blk_drewN ?_ _ | refine blk_drew ?_ | refine blk_alloc ?_ _)); exact BK406.out) hb)
          have n8_ := Aside0.mk (blk_below (g := gb411) (o := .cells #[.int .i64 t408, .int .i64 t409, .int .i64 t410] 23 (0, 0)) (by (with_reducible repeat (first | refine blk_drewN ?_ _ | refine blk_drew ?_ | refine blk_alloc ?_ _)); exact BK411.out) hb)
          have n9_ := Aside0.mk (blk_below (g := gb415) (o := .cells #[.int .i64 t412, .int .i64 t413, .int .i64 t414] 23 (0, 0)) (by (with_reducible repeat (first | refine blk_drewN ?_ _ | refine blk_drew ?_ | refine blk_alloc ?_ _)); exact BK415.out) hb)
          have n10_ := Aside0.mk (blk_below (g := gb428) (o := .cells #[.bool t419, .bool t420, .slice Ao44 t421.length co44, .slice Ao46 t424.length co46] 30 (0, 0)) (by (with_reducible repeat (first | refine blk_drewN ?_ _ | refine blk_drew ?_ | refine blk_alloc ?_ _)); exact BK428.out) hb)
          have n11_ := Aside0.mk (below_step (by repeat (first | (with_reducible first | exact HB.out | apply below_alloc | apply pw_below_drewN | apply below_drew1 | refine below_set ?_ GE405.out | refine below_set ?_ GE406.out | refine below_set ?_ GE411.out | refine below_set ?_ GE415.out | refine below_set ?_ GE428.out) | exact HB.out)) hb)
          clear HO418
          clear HO423
          clear HO426
          clear HO431
          clear BK405
          clear BK406
          clear BK411
          clear BK415
          clear BK428
          clear HB
          have HO418 := n0_
          have HO423 := n1_
          have HO426 := n2_
          have HO431 := n3_
          have HO436 := n4_
          have HO439 := n5_
          have BK405 := n6_
          have BK406 := n7_
          have BK411 := n8_
          have BK415 := n9_
          have BK428 := n10_
          have HB := n11_
          clear n0_ n1_ n2_ n3_ n4_ n5_ n6_ n7_ n8_ n9_ n10_ n11_
          (try clear hb)
          (try clear hb2)
          (try clear hk)
          (try clear hi)
          (try clear ho0)
          (try clear ho1)
          refine hK.out _ _ ⟨(blk_cell BK415.out 0).trans rfl, (blk_cell BK415.out 1).trans rfl, (blk_cell BK415.out 2).trans rfl, (blk_cell BK411.out 0).trans rfl, (blk_cell BK411.out 1).trans rfl, (blk_cell BK411.out 2).trans rfl⟩ (fun hHeld => ?_)
          clear hK K
          refine norm_ (a' := ?_) ?_ ?_
          rotate_left
          ·show Act.put _ (some 30) _ = _
           simp only [Act.put, List.setIfInBounds_toArray, List.set_cons_zero, List.set_cons_succ, i64_w, i32_w]
           rfl
          refine pure_ (i := 5) (N := some 25) (v := ?_) (a' := ?_) #[true, true, true, true, true, true, false, false, false, false, false] rfl rfl (any_of HT_.out (by kernel_rfl)) (fun _ _ _ h => h) (Or.inl ⟨by rfl, ?_⟩) ?_ ?_
          rotate_left
          ·intro w'
           go_simp
           with_reducible rfl
          rotate_left
          ·simp only [Act.put, List.setIfInBounds_toArray, List.set_cons_zero, List.set_cons_succ, i64_w, i32_w]
           rfl
          refine pure_ (i := 6) (N := some 31) (v := ?_) (a' := ?_) #[true, true, true, true, true, true, true, false, false, false, false] rfl rfl (any_of HT_.out (by kernel_rfl)) (fun _ _ _ h => h) (Or.inl ⟨by rfl, ?_⟩) ?_ ?_
          rotate_left
          ·intro w'
           go_simp
           with_reducible rfl
          rotate_left
          ·simp only [Act.put, List.setIfInBounds_toArray, List.set_cons_zero, List.set_cons_succ, i64_w, i32_w]
           rfl
          refine pure_ (i := 7) (N := some 32) (v := ?_) (a' := ?_) #[true, true, true, true, true, true, true, true, false, false, false] rfl rfl (any_of HT_.out (by kernel_rfl)) (fun _ _ _ h => h) (Or.inl ⟨by rfl, ?_⟩) ?_ ?_
          rotate_left
          ·intro w'
           go_simp
           with_reducible rfl
          rotate_left
          ·simp only [Act.put, List.setIfInBounds_toArray, List.set_cons_zero, List.set_cons_succ, i64_w, i32_w]
           rfl
          refine one_ (i := 8) (N := some 10) #[true, true, true, true, true, true, true, true, true, false, false] rfl rfl (one_of HT_.out (by kernel_rfl)) (by decide) (fun K hK => ?_)
          refine box_step ?hg (N := 10) ?hd (cs := #[.bool false, .bool false, .slice none 0 0, .slice none 0 0]) (t := 30) ?hr ?_; (case hd => rfl); (case hg => rfl); (case hr => first | (go_simp; done) | (go_simp; rfl))
          intro gb441 hg w53 hbox hb
          have n0_ := Aside0.mk (Kd.R_below (by (with_reducible repeat (first | apply Kd.R_alloc | apply Kd.R_drewN | apply Kd.R_drew)); exact HO418.out) hb)
          have n1_ := Aside0.mk (Kd.R_below (by (with_reducible repeat (first | apply Kd.R_alloc | apply Kd.R_drewN | apply Kd.R_drew)); exact HO423.out) hb)
          have n2_ := Aside0.mk (Kd.R_below (by (with_reducible repeat (first | apply Kd.R_alloc | apply Kd.R_drewN | apply Kd.R_drew)); exact HO426.out) hb)
          have n3_ := Aside0.mk (Kd.R_below (by (with_reducible repeat (first | apply Kd.R_alloc | apply Kd.R_drewN | apply Kd.R_drew)); exact HO431.out) hb)
          have n4_ := Aside0.mk (Kd.R_below (by (with_reducible repeat (first | apply Kd.R_alloc | apply Kd.R_drewN | apply Kd.R_drew)); exact HO436.out) hb)
          have n5_ := Aside0.mk (Kd.R_below (by (with_reducible repeat (first | apply Kd.R_alloc | apply Kd.R_drewN | apply Kd.R_drew)); exact HO439.out) hb)
          have n6_ := Aside0.mk (blk_below (g := gb405) (o := .cells #[.int .u8 a0_0, .int .u8 a0_1, .int .u8 a0_2] 39 (0, 0)) (by (with_reducible repeat (first | refine blk_drewN ?_ _ | refine blk_drew ?_ | refine blk_alloc ?_ _)); exact BK405.out) hb)
          have n7_ := Aside0.mk (blk_below (g := gb406) (o := .cells #[.int .u8 a1_0, .int .u8 a1_1, .int .u8 a1_2] 39 (0, 0)) (by (with_reducible repeat (first | refine blk_drewN ?_ _ | refine blk_drew ?_ | refine blk_alloc ?_ _)); exact BK406.out) hb)
          have n8_ := Aside0.mk (blk_below (g := gb411) (o := .cells #[.int .i64 t408, .int .i64 t409, .int .i64 t410] 23 (0, 0)) (by (with_reducible repeat (first | refine blk_drewN ?_ _ | refine blk_drew ?_ | refine blk_alloc ?_ _)); exact BK411.out) hb)
          have n9_ := Aside0.mk (blk_below (g := gb415) (o := .cells #[.int .i64 t412, .int .i64 t413, .int .i64 t414] 23 (0, 0)) (by (with_reducible repeat (first | refine blk_drewN ?_ _ | refine blk_drew ?_ | refine blk_alloc ?_ _)); exact BK415.out) hb)
          have n10_ := Aside0.mk (blk_below (g := gb428) (o := .cells #[.bool t419, .bool t420, .slice Ao44 t421.length co44, .slice Ao46 t424.length co46] 30 (0, 0)) (by (with_reducible repeat (first | refine blk_drewN ?_ _ | refine blk_drew ?_ | refine blk_alloc ?_ _)); exact BK428.out) hb)
          have n11_ := Aside0.mk (below_step (by repeat (first | (with_reducible first | exact HB.out | apply below_alloc | apply pw_below_drewN | apply below_drew1 | refine below_set ?_ GE405.out | refine below_set ?_ GE406.out | refine below_set ?_ GE411.out | refine below_set ?_ GE415.out | refine below_set ?_ GE428.out) | exact HB.out)) hb)
          have n12_ := Aside0.mk (hbox)
          have n13_ := Aside0.mk ((by rw [hg]; exact (below_size (by repeat (first | (with_reducible first | exact HB.out | apply below_alloc | apply pw_below_drewN | apply below_drew1 | refine below_set ?_ GE405.out | refine below_set ?_ GE406.out | refine below_set ?_ GE411.out | refine below_set ?_ GE415.out | refine below_set ?_ GE428.out) | exact HB.out))) : w.heap.size ≤ gb441))
          have n14_ := Aside0.mk ((by rw [hg]; exact (below_size (by repeat (first | (with_reducible first | exact HB.out | apply below_alloc | apply pw_below_drewN | apply below_drew1 | refine below_set ?_ GE405.out | refine below_set ?_ GE406.out | refine below_set ?_ GE411.out | refine below_set ?_ GE415.out | refine below_set ?_ GE428.out) | exact HB.out))) : w.heap.size ≤ gb441))
          have n15_ := Aside0.mk ((by rw [hg]; exact Nat.ne_of_lt (blk_lt (g := gb405) (o := .cells #[.int .u8 a0_0, .int .u8 a0_1, .int .u8 a0_2] 39 (0, 0)) (by (with_reducible repeat (first | refine blk_drewN ?_ _ | refine blk_drew ?_ | refine blk_alloc ?_ _)); exact BK405.out)) : gb405 ≠ gb441))
          have n16_ := Aside0.mk ((by rw [hg]; exact Nat.ne_of_gt (blk_lt (g := gb405) (o := .cells #[.int .u8 a0_0, .int .u8 a0_1, .int .u8 a0_2] 39 (0, 0)) (by (with_reducible repeat (first | refine blk_drewN ?_ _ | refine blk_drew ?_ | refine blk_alloc ?_ _)); exact BK405.out)) : gb441 ≠ gb405))
          have n17_ := Aside0.mk ((by rw [hg]; exact Nat.ne_of_lt (blk_lt (g := gb406) (o := .cells #[.int .u8 a1_0, .int .u8 a1_1, .int .u8 a1_2] 39 (0, 0)) (by (with_reducible repeat (first | refine blk_drewN ?_ _ | refine blk_drew ?_ | refine blk_alloc ?_ _)); exact BK406.out)) : gb406 ≠ gb441))
          have n18_ := Aside0.mk ((by rw [hg]; exact Nat.ne_of_gt (blk_lt (g := gb406) (o := .cells #[.int .u8 a1_0, .int .u8 a1_1, .int .u8 a1_2] 39 (0, 0)) (by (with_reducible repeat (first | refine blk_drewN ?_ _ | refine blk_drew ?_ | refine blk_alloc ?_ _)); exact BK406.out)) : gb441 ≠ gb406))
          have n19_ := Aside0.mk ((by rw [hg]; exact Nat.ne_of_lt (blk_lt (g := gb411) (o := .cells #[.int .i64 t408, .int .i64 t409, .int .i64 t410] 23 (0, 0)) (by (with_reducible repeat (first | refine blk_drewN ?_ _ | refine blk_drew ?_ | refine blk_alloc ?_ _)); exact BK411.out)) : gb411 ≠ gb441))
          have n20_ := Aside0.mk ((by rw [hg]; exact Nat.ne_of_gt (blk_lt (g := gb411) (o := .cells #[.int .i64 t408, .int .i64 t409, .int .i64 t410] 23 (0, 0)) (by (with_reducible repeat (first | refine blk_drewN ?_ _ | refine blk_drew ?_ | refine blk_alloc ?_ _)); exact BK411.out)) : gb441 ≠ gb411))
          have n21_ := Aside0.mk ((by rw [hg]; exact Nat.ne_of_lt (blk_lt (g := gb415) (o := .cells #[.int .i64 t412, .int .i64 t413, .int .i64 t414] 23 (0, 0)) (by (with_reducible repeat (first | refine blk_drewN ?_ _ | refine blk_drew ?_ | refine blk_alloc ?_ _)); exact BK415.out)) : gb415 ≠ gb441))
          have n22_ := Aside0.mk ((by rw [hg]; exact Nat.ne_of_gt (blk_lt (g := gb415) (o := .cells #[.int .i64 t412, .int .i64 t413, .int .i64 t414] 23 (0, 0)) (by (with_reducible repeat (first | refine blk_drewN ?_ _ | refine blk_drew ?_ | refine blk_alloc ?_ _)); exact BK415.out)) : gb441 ≠ gb415))
          have n23_ := Aside0.mk ((by rw [hg]; exact Nat.ne_of_lt (blk_lt (g := gb428) (o := .cells #[.bool t419, .bool t420, .slice Ao44 t421.length co44, .slice Ao46 t424.length co46] 30 (0, 0)) (by (with_reducible repeat (first | refine blk_drewN ?_ _ | refine blk_drew ?_ | refine blk_alloc ?_ _)); exact BK428.out)) : gb428 ≠ gb441))
          have n24_ := Aside0.mk ((by rw [hg]; exact Nat.ne_of_gt (blk_lt (g := gb428) (o := .cells #[.bool t419, .bool t420, .slice Ao44 t421.length co44, .slice Ao46 t424.length co46] 30 (0, 0)) (by (with_reducible repeat (first | refine blk_drewN ?_ _ | refine blk_drew ?_ | refine blk_alloc ?_ _)); exact BK428.out)) : gb441 ≠ gb428))
          clear HO418
          clear HO423
          clear HO426
          clear HO431
          clear HO436
          clear HO439
          clear BK405
          clear BK406
          clear BK411
          clear BK415
          clear BK428
          clear HB
          have HO418 := n0_
          have HO423 := n1_
          have HO426 := n2_
          have HO431 := n3_
          have HO436 := n4_
          have HO439 := n5_
          have BK405 := n6_
          have BK406 := n7_
          have BK411 := n8_
          have BK415 := n9_
          have BK428 := n10_
          have HB := n11_
          have BK441 := n12_
          have GW441 := n13_
          have GE441 := n14_
          have NB405_441 := n15_
          have NB441_405 := n16_
          have NB406_441 := n17_
          have NB441_406 := n18_
          have NB411_441 := n19_
          have NB441_411 := n20_
          have NB415_441 := n21_
          have NB441_415 := n22_
          have NB428_441 := n23_
          have NB441_428 := n24_
          clear n0_ n1_ n2_ n3_ n4_ n5_ n6_ n7_ n8_ n9_ n10_ n11_ n12_ n13_ n14_ n15_ n16_ n17_ n18_ n19_ n20_ n21_ n22_ n23_ n24_
          clear hb hbox hg
          refine hK.out _ _ ⟨(blk_cell BK415.out 0).trans rfl, (blk_cell BK415.out 1).trans rfl, (blk_cell BK415.out 2).trans rfl, (blk_cell BK411.out 0).trans rfl, (blk_cell BK411.out 1).trans rfl, (blk_cell BK411.out 2).trans rfl⟩ (fun hHeld => ?_)
          clear hK K
          refine norm_ (a' := ?_) ?_ ?_
          rotate_left
          ·show Act.put _ (some 10) _ = _
           simp only [Act.put, List.setIfInBounds_toArray, List.set_cons_zero, List.set_cons_succ, i64_w, i32_w]
           rfl
          exact norm_ (by simp only [putAll, Act.put, List.setIfInBounds_toArray, List.set_cons_zero, List.set_cons_succ]) (hCont (.slice Ao51 t429.length co51, v435, v438, gb441) _ ⟨hHeld, (by (with_reducible repeat (first | apply Kd.R_alloc | apply Kd.R_drewN | apply Kd.R_drew)); exact Kd.R_mono HO418.out (fun _ hk => hk.2)), (by (with_reducible repeat (first | apply Kd.R_alloc | apply Kd.R_drewN | apply Kd.R_drew)); exact Kd.R_mono HO423.out (fun _ hk => ⟨hk.1.1, ⟨hk.1.2, hk.2⟩⟩)), (by (with_reducible repeat (first | apply Kd.R_alloc | apply Kd.R_drewN | apply Kd.R_drew)); exact Kd.R_mono HO426.out (fun _ hk => ⟨hk.1.1, ⟨hk.1.2, hk.2⟩⟩)), (by (with_reducible repeat (first | apply Kd.R_alloc | apply Kd.R_drewN | apply Kd.R_drew)); exact Kd.R_mono HO431.out (fun _ hk => hk.2)), (by (with_reducible repeat (first | apply Kd.R_alloc | apply Kd.R_drewN | apply Kd.R_drew)); exact Kd.R_mono HO436.out (fun _ hk => ⟨hk.1.2, ⟨hk.2, hk.1.1⟩⟩)), (by (with_reducible repeat (first | apply Kd.R_alloc | apply Kd.R_drewN | apply Kd.R_drew)); exact Kd.R_mono HO439.out (fun _ hk => ⟨hk.1.2, ⟨hk.2, hk.1.1⟩⟩)), (by (with_reducible repeat (first | refine blk_drewN ?_ _ | refine blk_drew ?_ | refine blk_alloc ?_ _)); exact BK405.out), (by (with_reducible repeat (first | refine blk_drewN ?_ _ | refine blk_drew ?_ | refine blk_alloc ?_ _)); exact BK406.out), (by (with_reducible repeat (first | refine blk_drewN ?_ _ | refine blk_drew ?_ | refine blk_alloc ?_ _)); exact BK411.out), (by (with_reducible repeat (first | refine blk_drewN ?_ _ | refine blk_drew ?_ | refine blk_alloc ?_ _)); exact BK415.out), (by (with_reducible repeat (first | refine blk_drewN ?_ _ | refine blk_drew ?_ | refine blk_alloc ?_ _)); exact BK428.out), (by (with_reducible repeat (first | refine blk_drewN ?_ _ | refine blk_drew ?_ | refine blk_alloc ?_ _)); exact BK441.out), GW441.out, GE441.out, NB405_441.out, NB441_405.out, NB406_441.out, NB441_406.out, NB411_441.out, NB441_411.out, NB415_441.out, NB441_415.out, NB428_441.out, NB441_428.out, (by repeat (first | (with_reducible first | exact HB.out | apply below_alloc | apply pw_below_drewN | apply below_drew1 | refine below_set ?_ GE405.out | refine below_set ?_ GE406.out | refine below_set ?_ GE411.out | refine below_set ?_ GE415.out | refine below_set ?_ GE428.out | refine below_set ?_ GE441.out) | exact HB.out))⟩)
         ·skip
          refine box_step ?hg (N := 10) ?hd (cs := #[.bool false, .bool false, .slice none 0 0, .slice none 0 0]) (t := 30) ?hr ?_; (case hd => rfl); (case hg => rfl); (case hr => first | (go_simp; done) | (go_simp; rfl))
          intro gb441 hg w51 hbox hb
          have n0_ := Aside0.mk (Kd.R_below (by (with_reducible repeat (first | apply Kd.R_alloc | apply Kd.R_drewN | apply Kd.R_drew)); exact HO418.out) hb)
          have n1_ := Aside0.mk (Kd.R_below (by (with_reducible repeat (first | apply Kd.R_alloc | apply Kd.R_drewN | apply Kd.R_drew)); exact HO423.out) hb)
          have n2_ := Aside0.mk (Kd.R_below (by (with_reducible repeat (first | apply Kd.R_alloc | apply Kd.R_drewN | apply Kd.R_drew)); exact HO426.out) hb)
          have n3_ := Aside0.mk (Kd.R_below (by (with_reducible repeat (first | apply Kd.R_alloc | apply Kd.R_drewN | apply Kd.R_drew)); exact HO431.out) hb)
          have n4_ := Aside0.mk (blk_below (g := gb405) (o := .cells #[.int .u8 a0_0, .int .u8 a0_1, .int .u8 a0_2] 39 (0, 0)) (by (with_reducible repeat (first | refine blk_drewN ?_ _ | refine blk_drew ?_ | refine blk_alloc ?_ _)); exact BK405.out) hb)
          have n5_ := Aside0.mk (blk_below (g := gb406) (o := .cells #[.int .u8 a1_0, .int .u8 a1_1, .int .u8 a1_2] 39 (0, 0)) (by (with_reducible repeat (first | refine blk_drewN ?_ _ | refine blk_drew ?_ | refine blk_alloc ?_ _)); exact BK406.out) hb)
          have n6_ := Aside0.mk (blk_below (g := gb411) (o := .cells #[.int .i64 t408, .int .i64 t409, .int .i64 t410] 23 (0, 0)) (by (with_reducible repeat (first | refine blk_drewN ?_ _ | refine blk_drew ?_ | refine blk_alloc ?_ _)); exact BK411.out) hb)
          have n7_ := Aside0.mk (blk_below (g := gb415) (o := .cells #[.int .i64 t412, .int .i64 t413, .int .i64 t414] 23 (0, 0)) (by (with_reducible repeat (first | refine blk_drewN ?_ _ | refine blk_drew ?_ | refine blk_alloc ?_ _)); exact BK415.out) hb)
          have n8_ := Aside0.mk (blk_below (g := gb428) (o := .cells #[.bool t419, .bool t420, .slice Ao44 t421.length co44, .slice Ao46 t424.length co46] 30 (0, 0)) (by (with_reducible repeat (first | refine blk_drewN ?_ _ | refine blk_drew ?_ | refine blk_alloc ?_ _)); exact BK428.out) hb)
          have n9_ := Aside0.mk (below_step (by repeat (first | (with_reducible first | exact HB.out | apply below_alloc | apply pw_below_drewN | apply below_drew1 | refine below_set ?_ GE405.out | refine below_set ?_ GE406.out | refine below_set ?_ GE411.out | refine below_set ?_ GE415.out | refine below_set ?_ GE428.out) | exact HB.out)) hb)
          have n10_ := Aside0.mk (hbox)
          have n11_ := Aside0.mk ((by rw [hg]; exact (below_size (by repeat (first | (with_reducible first | exact HB.out | apply below_alloc | apply pw_below_drewN | apply below_drew1 | refine below_set ?_ GE405.out | refine below_set ?_ GE406.out | refine below_set ?_ GE411.out | refine below_set ?_ GE415.out | refine below_set ?_ GE428.out) | exact HB.out))) : w.heap.size ≤ gb441))
          have n12_ := Aside0.mk ((by rw [hg]; exact (below_size (by repeat (first | (with_reducible first | exact HB.out | apply below_alloc | apply pw_below_drewN | apply below_drew1 | refine below_set ?_ GE405.out | refine below_set ?_ GE406.out | refine below_set ?_ GE411.out | refine below_set ?_ GE415.out | refine below_set ?_ GE428.out) | exact HB.out))) : w.heap.size ≤ gb441))
          have n13_ := Aside0.mk ((by rw [hg]; exact Nat.ne_of_lt (blk_lt (g := gb405) (o := .cells #[.int .u8 a0_0, .int .u8 a0_1, .int .u8 a0_2] 39 (0, 0)) (by (with_reducible repeat (first | refine blk_drewN ?_ _ | refine blk_drew ?_ | refine blk_alloc ?_ _)); exact BK405.out)) : gb405 ≠ gb441))
          have n14_ := Aside0.mk ((by rw [hg]; exact Nat.ne_of_gt (blk_lt (g := gb405) (o := .cells #[.int .u8 a0_0, .int .u8 a0_1, .int .u8 a0_2] 39 (0, 0)) (by (with_reducible repeat (first | refine blk_drewN ?_ _ | refine blk_drew ?_ | refine blk_alloc ?_ _)); exact BK405.out)) : gb441 ≠ gb405))
          have n15_ := Aside0.mk ((by rw [hg]; exact Nat.ne_of_lt (blk_lt (g := gb406) (o := .cells #[.int .u8 a1_0, .int .u8 a1_1, .int .u8 a1_2] 39 (0, 0)) (by (with_reducible repeat (first | refine blk_drewN ?_ _ | refine blk_drew ?_ | refine blk_alloc ?_ _)); exact BK406.out)) : gb406 ≠ gb441))
          have n16_ := Aside0.mk ((by rw [hg]; exact Nat.ne_of_gt (blk_lt (g := gb406) (o := .cells #[.int .u8 a1_0, .int .u8 a1_1, .int .u8 a1_2] 39 (0, 0)) (by (with_reducible repeat (first | refine blk_drewN ?_ _ | refine blk_drew ?_ | refine blk_alloc ?_ _)); exact BK406.out)) : gb441 ≠ gb406))
          have n17_ := Aside0.mk ((by rw [hg]; exact Nat.ne_of_lt (blk_lt (g := gb411) (o := .cells #[.int .i64 t408, .int .i64 t409, .int .i64 t410] 23 (0, 0)) (by (with_reducible repeat (first | refine blk_drewN ?_ _ | refine blk_drew ?_ | refine blk_alloc ?_ _)); exact BK411.out)) : gb411 ≠ gb441))
          have n18_ := Aside0.mk ((by rw [hg]; exact Nat.ne_of_gt (blk_lt (g := gb411) (o := .cells #[.int .i64 t408, .int .i64 t409, .int .i64 t410] 23 (0, 0)) (by (with_reducible repeat (first | refine blk_drewN ?_ _ | refine blk_drew ?_ | refine blk_alloc ?_ _)); exact BK411.out)) : gb441 ≠ gb411))
          have n19_ := Aside0.mk ((by rw [hg]; exact Nat.ne_of_lt (blk_lt (g := gb415) (o := .cells #[.int .i64 t412, .int .i64 t413, .int .i64 t414] 23 (0, 0)) (by (with_reducible repeat (first | refine blk_drewN ?_ _ | refine blk_drew ?_ | refine blk_alloc ?_ _)); exact BK415.out)) : gb415 ≠ gb441))
          have n20_ := Aside0.mk ((by rw [hg]; exact Nat.ne_of_gt (blk_lt (g := gb415) (o := .cells #[.int .i64 t412, .int .i64 t413, .int .i64 t414] 23 (0, 0)) (by (with_reducible repeat (first | refine blk_drewN ?_ _ | refine blk_drew ?_ | refine blk_alloc ?_ _)); exact BK415.out)) : gb441 ≠ gb415))
          have n21_ := Aside0.mk ((by rw [hg]; exact Nat.ne_of_lt (blk_lt (g := gb428) (o := .cells #[.bool t419, .bool t420, .slice Ao44 t421.length co44, .slice Ao46 t424.length co46] 30 (0, 0)) (by (with_reducible repeat (first | refine blk_drewN ?_ _ | refine blk_drew ?_ | refine blk_alloc ?_ _)); exact BK428.out)) : gb428 ≠ gb441))
          have n22_ := Aside0.mk ((by rw [hg]; exact Nat.ne_of_gt (blk_lt (g := gb428) (o := .cells #[.bool t419, .bool t420, .slice Ao44 t421.length co44, .slice Ao46 t424.length co46] 30 (0, 0)) (by (with_reducible repeat (first | refine blk_drewN ?_ _ | refine blk_drew ?_ | refine blk_alloc ?_ _)); exact BK428.out)) : gb441 ≠ gb428))
          clear HO418
          clear HO423
          clear HO426
          clear HO431
          clear BK405
          clear BK406
          clear BK411
          clear BK415
          clear BK428
          clear HB
          have HO418 := n0_
          have HO423 := n1_
          have HO426 := n2_
          have HO431 := n3_
          have BK405 := n4_
          have BK406 := n5_
          have BK411 := n6_
          have BK415 := n7_
          have BK428 := n8_
          have HB := n9_
          have BK441 := n10_
          have GW441 := n11_
          have GE441 := n12_
          have NB405_441 := n13_
          have NB441_405 := n14_
          have NB406_441 := n15_
          have NB441_406 := n16_
          have NB411_441 := n17_
          have NB441_411 := n18_
          have NB415_441 := n19_
          have NB441_415 := n20_
          have NB428_441 := n21_
          have NB441_428 := n22_
          clear n0_ n1_ n2_ n3_ n4_ n5_ n6_ n7_ n8_ n9_ n10_ n11_ n12_ n13_ n14_ n15_ n16_ n17_ n18_ n19_ n20_ n21_ n22_
          clear hb hbox hg
          obtain ⟨Ao52, co52, eo52⟩ := Kd.R_slice HO431.out
          (first | subst eo52 | (injection eo52 with f1_ f2_ f3_; have f4_ := f1_.symm; have f5_ := f3_.symm; clear f1_ f2_ f3_; subst f4_; subst f5_))
          refine hK.out _ _ ⟨(blk_cell BK415.out 0).trans rfl, (blk_cell BK415.out 1).trans rfl, (blk_cell BK415.out 2).trans rfl, (blk_cell BK411.out 0).trans rfl, (blk_cell BK411.out 1).trans rfl, (blk_cell BK411.out 2).trans rfl⟩ (fun hHeld => ?_)
          clear hK K
          refine norm_ (a' := ?_) ?_ ?_
          rotate_left
          ·show Act.put _ (some 10) _ = _
           simp only [Act.put, List.setIfInBounds_toArray, List.set_cons_zero, List.set_cons_succ, i64_w, i32_w]
           rfl
          refine one_ (i := 4) (N := some 30) #[true, true, true, true, true, false, false, false, true, false, false] rfl rfl (one_of HT_.out (by kernel_rfl)) (by decide) (fun K hK => ?_)
          refine goes_ Tryd.func8 (by kernel_rfl) rfl #[.string (⟨#[97, 98, 99]⟩ : ByteArray), .agg #[.int .i64 t412, .int .i64 t413, .int .i64 t414], .slice Ao52 t429.length co52, .agg #[.int .i64 t408, .int .i64 t409, .int .i64 t410]] (by rfl) rfl rfl (by (try simp only [List.map_toArray, List.map_cons, List.map_nil]); first | done | rfl | (simp only [List.length_drop, List.length_take]; rfl)) ?_
          with_reducible refine (plan_Of.calls k (⟨#[97, 98, 99]⟩ : ByteArray) t412 t413 t414 _ _ t429 t408 t409 t410 t432 t433 t434 t437 t440 _ ?side1 ?side2 A9.out).mono ?_
          (case side1 => repeat (first | exact (Kd.R_reads' HO431.out).2.2 | (with_reducible refine Kd.C_alloc ?_ _) | (with_reducible refine Kd.C_drewN ?_ _) | (with_reducible refine Kd.C_drew ?_)))
          (case side2 => exact (Kd.R_reads' HO431.out).2.1)
          rintro e w53 ⟨v435, v438, rfl, ho0, ho1, hb⟩
          refine ⟨_, rfl, ?_⟩
          have n0_ := Aside0.mk (Kd.R_below (by (with_reducible repeat (first | apply Kd.R_alloc | apply Kd.R_drewN | apply Kd.R_drew)); exact HO418.out) hb)
          have n1_ := Aside0.mk (Kd.R_mono (Kd.R_told (Kd.R_told (Kd.R_old (by (with_reducible repeat (first | apply Kd.R_alloc | apply Kd.R_drewN | apply Kd.R_drew)); exact HO423.out) hb) (Kd.R_base ho0)) (Kd.R_base ho1)) (fun _ h_ => h_.1))
          have n2_ := Aside0.mk (Kd.R_mono (Kd.R_told (Kd.R_told (Kd.R_old (by (with_reducible repeat (first | apply Kd.R_alloc | apply Kd.R_drewN | apply Kd.R_drew)); exact HO426.out) hb) (Kd.R_base ho0)) (Kd.R_base ho1)) (fun _ h_ => h_.1))
          have n3_ := Aside0.mk (Kd.R_below (by (with_reducible repeat (first | apply Kd.R_alloc | apply Kd.R_drewN | apply Kd.R_drew)); exact HO431.out) hb)
          have n4_ := Aside0.mk (Kd.R_lower (Kd.R_new' (Kd.R_new' ho0 (Kd.R_lt (by (with_reducible repeat (first | apply Kd.R_alloc | apply Kd.R_drewN | apply Kd.R_drew)); exact HO423.out))) (Kd.R_lt (by (with_reducible repeat (first | apply Kd.R_alloc | apply Kd.R_drewN | apply Kd.R_drew)); exact HO426.out))) (below_size (by repeat (first | (with_reducible first | exact HB.out | apply below_alloc | apply pw_below_drewN | apply below_drew1 | refine below_set ?_ GE405.out | refine below_set ?_ GE406.out | refine below_set ?_ GE411.out | refine below_set ?_ GE415.out | refine below_set ?_ GE428.out | refine below_set ?_ GE441.out) | exact HB.out))))
          have n5_ := Aside0.mk (Kd.R_lower (Kd.R_new' (Kd.R_new' ho1 (Kd.R_lt (by (with_reducible repeat (first | apply Kd.R_alloc | apply Kd.R_drewN | apply Kd.R_drew)); exact HO423.out))) (Kd.R_lt (by (with_reducible repeat (first | apply Kd.R_alloc | apply Kd.R_drewN | apply Kd.R_drew)); exact HO426.out))) (below_size (by repeat (first | (with_reducible first | exact HB.out | apply below_alloc | apply pw_below_drewN | apply below_drew1 | refine below_set ?_ GE405.out | refine below_set ?_ GE406.out | refine below_set ?_ GE411.out | refine below_set ?_ GE415.out | refine below_set ?_ GE428.out | refine below_set ?_ GE441.out) | exact HB.out))))
          have n6_ := Aside0.mk (blk_below (g := gb405) (o := .cells #[.int .u8 a0_0, .int .u8 a0_1, .int .u8 a0_2] 39 (0, 0)) (by (with_reducible repeat (first | refine blk_drewN ?_ _ | refine blk_drew ?_ | refine blk_alloc ?_ _)); exact BK405.out) hb)
          have n7_ := Aside0.mk (blk_below (g := gb406) (o := .cells #[.int .u8 a1_0, .int .u8 a1_1, .int .u8 a1_2] 39 (0, 0)) (by (with_reducible repeat (first | refine blk_drewN ?_ _ | refine blk_drew ?_ | refine blk_alloc ?_ _)); exact BK406.out) hb)
          have n8_ := Aside0.mk (blk_below (g := gb411) (o := .cells #[.int .i64 t408, .int .i64 t409, .int .i64 t410] 23 (0, 0)) (by (with_reducible repeat (first | refine blk_drewN ?_ _ | refine blk_drew ?_ | refine blk_alloc ?_ _)); exact BK411.out) hb)
          have n9_ := Aside0.mk (blk_below (g := gb415) (o := .cells #[.int .i64 t412, .int .i64 t413, .int .i64 t414] 23 (0, 0)) (by (with_reducible repeat (first | refine blk_drewN ?_ _ | refine blk_drew ?_ | refine blk_alloc ?_ _)); exact BK415.out) hb)
          have n10_ := Aside0.mk (blk_below (g := gb428) (o := .cells #[.bool t419, .bool t420, .slice Ao44 t421.length co44, .slice Ao46 t424.length co46] 30 (0, 0)) (by (with_reducible repeat (first | refine blk_drewN ?_ _ | refine blk_drew ?_ | refine blk_alloc ?_ _)); exact BK428.out) hb)
          have n11_ := Aside0.mk (blk_below (g := gb441) (o := .cells #[.bool false, .bool false, .slice none 0 0, .slice none 0 0] 30 (0, 0)) (by (with_reducible repeat (first | refine blk_drewN ?_ _ | refine blk_drew ?_ | refine blk_alloc ?_ _)); exact BK441.out) hb)
          have n12_ := Aside0.mk (below_step (by repeat (first | (with_reducible first | exact HB.out | apply below_alloc | apply pw_below_drewN | apply below_drew1 | refine below_set ?_ GE405.out | refine below_set ?_ GE406.out | refine below_set ?_ GE411.out | refine below_set ?_ GE415.out | refine below_set ?_ GE428.out | refine below_set ?_ GE441.out) | exact HB.out)) hb)
          clear HO418
          clear HO423
          clear HO426
          clear HO431
          clear BK405
          clear BK406
          clear BK411
          clear BK415
          clear BK428
          clear BK441
          clear HB
          have HO418 := n0_
          have HO423 := n1_
          have HO426 := n2_
          have HO431 := n3_
          have HO436 := n4_
          have HO439 := n5_
          have BK405 := n6_
          have BK406 := n7_
          have BK411 := n8_
          have BK415 := n9_
          have BK428 := n10_
          have BK441 := n11_
          have HB := n12_
          clear n0_ n1_ n2_ n3_ n4_ n5_ n6_ n7_ n8_ n9_ n10_ n11_ n12_
          (try clear hb)
          (try clear hb2)
          (try clear hk)
          (try clear hi)
          (try clear ho0)
          (try clear ho1)
          refine hK.out _ _ ⟨(blk_cell BK415.out 0).trans rfl, (blk_cell BK415.out 1).trans rfl, (blk_cell BK415.out 2).trans rfl, (blk_cell BK411.out 0).trans rfl, (blk_cell BK411.out 1).trans rfl, (blk_cell BK411.out 2).trans rfl⟩ (fun hHeld => ?_)
          clear hK K
          refine norm_ (a' := ?_) ?_ ?_
          rotate_left
          ·show Act.put _ (some 30) _ = _
           simp only [Act.put, List.setIfInBounds_toArray, List.set_cons_zero, List.set_cons_succ, i64_w, i32_w]
           rfl
          refine pure_ (i := 5) (N := some 25) (v := ?_) (a' := ?_) #[true, true, true, true, true, true, false, false, true, false, false] rfl rfl (any_of HT_.out (by kernel_rfl)) (fun _ _ _ h => h) (Or.inl ⟨by rfl, ?_⟩) ?_ ?_
          rotate_left
          ·intro w'
           go_simp
           with_reducible rfl
          rotate_left
          ·simp only [Act.put, List.setIfInBounds_toArray, List.set_cons_zero, List.set_cons_succ, i64_w, i32_w]
           rfl
          refine pure_ (i := 6) (N := some 31) (v := ?_) (a' := ?_) #[true, true, true, true, true, true, true, false, true, false, false] rfl rfl (any_of HT_.out (by kernel_rfl)) (fun _ _ _ h => h) (Or.inl ⟨by rfl, ?_⟩) ?_ ?_
          rotate_left
          ·intro w'
           go_simp
           with_reducible rfl
          rotate_left
          ·simp only [Act.put, List.setIfInBounds_toArray, List.set_cons_zero, List.set_cons_succ, i64_w, i32_w]
           rfl
          refine pure_ (i := 7) (N := some 32) (v := ?_) (a' := ?_) #[true, true, true, true, true, true, true, true, true, false, false] rfl rfl (any_of HT_.out (by kernel_rfl)) (fun _ _ _ h => h) (Or.inl ⟨by rfl, ?_⟩) ?_ ?_
          rotate_left
          ·intro w'
           go_simp
           with_reducible rfl
          rotate_left
          ·simp only [Act.put, List.setIfInBounds_toArray, List.set_cons_zero, List.set_cons_succ, i64_w, i32_w]
           rfl
          exact norm_ (by simp only [putAll, Act.put, List.setIfInBounds_toArray, List.set_cons_zero, List.set_cons_succ]) (hCont (.slice Ao52 t429.length co52, v435, v438, gb441) _ ⟨hHeld, (by (with_reducible repeat (first | apply Kd.R_alloc | apply Kd.R_drewN | apply Kd.R_drew)); exact Kd.R_mono HO418.out (fun _ hk => hk.2)), (by (with_reducible repeat (first | apply Kd.R_alloc | apply Kd.R_drewN | apply Kd.R_drew)); exact Kd.R_mono HO423.out (fun _ hk => ⟨hk.1.1, ⟨hk.1.2, hk.2⟩⟩)), (by (with_reducible repeat (first | apply Kd.R_alloc | apply Kd.R_drewN | apply Kd.R_drew)); exact Kd.R_mono HO426.out (fun _ hk => ⟨hk.1.1, ⟨hk.1.2, hk.2⟩⟩)), (by (with_reducible repeat (first | apply Kd.R_alloc | apply Kd.R_drewN | apply Kd.R_drew)); exact Kd.R_mono HO431.out (fun _ hk => hk.2)), (by (with_reducible repeat (first | apply Kd.R_alloc | apply Kd.R_drewN | apply Kd.R_drew)); exact Kd.R_mono HO436.out (fun _ hk => ⟨hk.1.2, ⟨hk.2, hk.1.1⟩⟩)), (by (with_reducible repeat (first | apply Kd.R_alloc | apply Kd.R_drewN | apply Kd.R_drew)); exact Kd.R_mono HO439.out (fun _ hk => ⟨hk.1.2, ⟨hk.2, hk.1.1⟩⟩)), (by (with_reducible repeat (first | refine blk_drewN ?_ _ | refine blk_drew ?_ | refine blk_alloc ?_ _)); exact BK405.out), (by (with_reducible repeat (first | refine blk_drewN ?_ _ | refine blk_drew ?_ | refine blk_alloc ?_ _)); exact BK406.out), (by (with_reducible repeat (first | refine blk_drewN ?_ _ | refine blk_drew ?_ | refine blk_alloc ?_ _)); exact BK411.out), (by (with_reducible repeat (first | refine blk_drewN ?_ _ | refine blk_drew ?_ | refine blk_alloc ?_ _)); exact BK415.out), (by (with_reducible repeat (first | refine blk_drewN ?_ _ | refine blk_drew ?_ | refine blk_alloc ?_ _)); exact BK428.out), (by (with_reducible repeat (first | refine blk_drewN ?_ _ | refine blk_drew ?_ | refine blk_alloc ?_ _)); exact BK441.out), GW441.out, GE441.out, NB405_441.out, NB441_405.out, NB406_441.out, NB441_406.out, NB411_441.out, NB441_411.out, NB415_441.out, NB441_415.out, NB428_441.out, NB441_428.out, (by repeat (first | (with_reducible first | exact HB.out | apply below_alloc | apply pw_below_drewN | apply below_drew1 | refine below_set ?_ GE405.out | refine below_set ?_ GE406.out | refine below_set ?_ GE411.out | refine below_set ?_ GE415.out | refine below_set ?_ GE428.out | refine below_set ?_ GE441.out) | exact HB.out))⟩)
        ·skip
         refine box_step ?hg (N := 10) ?hd (cs := #[.bool false, .bool false, .slice none 0 0, .slice none 0 0]) (t := 30) ?hr ?_; (case hd => rfl); (case hg => rfl); (case hr => first | (go_simp; done) | (go_simp; rfl))
         intro gb441 hg w50 hbox hb
         have n0_ := Aside0.mk (Kd.R_below (by (with_reducible repeat (first | apply Kd.R_alloc | apply Kd.R_drewN | apply Kd.R_drew)); exact HO418.out) hb)
         have n1_ := Aside0.mk (Kd.R_below (by (with_reducible repeat (first | apply Kd.R_alloc | apply Kd.R_drewN | apply Kd.R_drew)); exact HO423.out) hb)
         have n2_ := Aside0.mk (Kd.R_below (by (with_reducible repeat (first | apply Kd.R_alloc | apply Kd.R_drewN | apply Kd.R_drew)); exact HO426.out) hb)
         have n3_ := Aside0.mk (blk_below (g := gb405) (o := .cells #[.int .u8 a0_0, .int .u8 a0_1, .int .u8 a0_2] 39 (0, 0)) (by (with_reducible repeat (first | refine blk_drewN ?_ _ | refine blk_drew ?_ | refine blk_alloc ?_ _)); exact BK405.out) hb)
         have n4_ := Aside0.mk (blk_below (g := gb406) (o := .cells #[.int .u8 a1_0, .int .u8 a1_1, .int .u8 a1_2] 39 (0, 0)) (by (with_reducible repeat (first | refine blk_drewN ?_ _ | refine blk_drew ?_ | refine blk_alloc ?_ _)); exact BK406.out) hb)
         have n5_ := Aside0.mk (blk_below (g := gb411) (o := .cells #[.int .i64 t408, .int .i64 t409, .int .i64 t410] 23 (0, 0)) (by (with_reducible repeat (first | refine blk_drewN ?_ _ | refine blk_drew ?_ | refine blk_alloc ?_ _)); exact BK411.out) hb)
         have n6_ := Aside0.mk (blk_below (g := gb415) (o := .cells #[.int .i64 t412, .int .i64 t413, .int .i64 t414] 23 (0, 0)) (by (with_reducible repeat (first | refine blk_drewN ?_ _ | refine blk_drew ?_ | refine blk_alloc ?_ _)); exact BK415.out) hb)
         have n7_ := Aside0.mk (blk_below (g := gb428) (o := .cells #[.bool t419, .bool t420, .slice Ao44 t421.length co44, .slice Ao46 t424.length co46] 30 (0, 0)) (by (with_reducible repeat (first | refine blk_drewN ?_ _ | refine blk_drew ?_ | refine blk_alloc ?_ _)); exact BK428.out) hb)
         have n8_ := Aside0.mk (below_step (by repeat (first | (with_reducible first | exact HB.out | apply below_alloc | apply pw_below_drewN | apply below_drew1 | refine below_set ?_ GE405.out | refine below_set ?_ GE406.out | refine below_set ?_ GE411.out | refine below_set ?_ GE415.out | refine below_set ?_ GE428.out) | exact HB.out)) hb)
         have n9_ := Aside0.mk (hbox)
         have n10_ := Aside0.mk ((by rw [hg]; exact (below_size (by repeat (first | (with_reducible first | exact HB.out | apply below_alloc | apply pw_below_drewN | apply below_drew1 | refine below_set ?_ GE405.out | refine below_set ?_ GE406.out | refine below_set ?_ GE411.out | refine below_set ?_ GE415.out | refine below_set ?_ GE428.out) | exact HB.out))) : w.heap.size ≤ gb441))
         have n11_ := Aside0.mk ((by rw [hg]; exact (below_size (by repeat (first | (with_reducible first | exact HB.out | apply below_alloc | apply pw_below_drewN | apply below_drew1 | refine below_set ?_ GE405.out | refine below_set ?_ GE406.out | refine below_set ?_ GE411.out | refine below_set ?_ GE415.out | refine below_set ?_ GE428.out) | exact HB.out))) : w.heap.size ≤ gb441))
         have n12_ := Aside0.mk ((by rw [hg]; exact Nat.ne_of_lt (blk_lt (g := gb405) (o := .cells #[.int .u8 a0_0, .int .u8 a0_1, .int .u8 a0_2] 39 (0, 0)) (by (with_reducible repeat (first | refine blk_drewN ?_ _ | refine blk_drew ?_ | refine blk_alloc ?_ _)); exact BK405.out)) : gb405 ≠ gb441))
         have n13_ := Aside0.mk ((by rw [hg]; exact Nat.ne_of_gt (blk_lt (g := gb405) (o := .cells #[.int .u8 a0_0, .int .u8 a0_1, .int .u8 a0_2] 39 (0, 0)) (by (with_reducible repeat (first | refine blk_drewN ?_ _ | refine blk_drew ?_ | refine blk_alloc ?_ _)); exact BK405.out)) : gb441 ≠ gb405))
         have n14_ := Aside0.mk ((by rw [hg]; exact Nat.ne_of_lt (blk_lt (g := gb406) (o := .cells #[.int .u8 a1_0, .int .u8 a1_1, .int .u8 a1_2] 39 (0, 0)) (by (with_reducible repeat (first | refine blk_drewN ?_ _ | refine blk_drew ?_ | refine blk_alloc ?_ _)); exact BK406.out)) : gb406 ≠ gb441))
         have n15_ := Aside0.mk ((by rw [hg]; exact Nat.ne_of_gt (blk_lt (g := gb406) (o := .cells #[.int .u8 a1_0, .int .u8 a1_1, .int .u8 a1_2] 39 (0, 0)) (by (with_reducible repeat (first | refine blk_drewN ?_ _ | refine blk_drew ?_ | refine blk_alloc ?_ _)); exact BK406.out)) : gb441 ≠ gb406))
         have n16_ := Aside0.mk ((by rw [hg]; exact Nat.ne_of_lt (blk_lt (g := gb411) (o := .cells #[.int .i64 t408, .int .i64 t409, .int .i64 t410] 23 (0, 0)) (by (with_reducible repeat (first | refine blk_drewN ?_ _ | refine blk_drew ?_ | refine blk_alloc ?_ _)); exact BK411.out)) : gb411 ≠ gb441))
         have n17_ := Aside0.mk ((by rw [hg]; exact Nat.ne_of_gt (blk_lt (g := gb411) (o := .cells #[.int .i64 t408, .int .i64 t409, .int .i64 t410] 23 (0, 0)) (by (with_reducible repeat (first | refine blk_drewN ?_ _ | refine blk_drew ?_ | refine blk_alloc ?_ _)); exact BK411.out)) : gb441 ≠ gb411))
         have n18_ := Aside0.mk ((by rw [hg]; exact Nat.ne_of_lt (blk_lt (g := gb415) (o := .cells #[.int .i64 t412, .int .i64 t413, .int .i64 t414] 23 (0, 0)) (by (with_reducible repeat (first | refine blk_drewN ?_ _ | refine blk_drew ?_ | refine blk_alloc ?_ _)); exact BK415.out)) : gb415 ≠ gb441))
         have n19_ := Aside0.mk ((by rw [hg]; exact Nat.ne_of_gt (blk_lt (g := gb415) (o := .cells #[.int .i64 t412, .int .i64 t413, .int .i64 t414] 23 (0, 0)) (by (with_reducible repeat (first | refine blk_drewN ?_ _ | refine blk_drew ?_ | refine blk_alloc ?_ _)); exact BK415.out)) : gb441 ≠ gb415))
         have n20_ := Aside0.mk ((by rw [hg]; exact Nat.ne_of_lt (blk_lt (g := gb428) (o := .cells #[.bool t419, .bool t420, .slice Ao44 t421.length co44, .slice Ao46 t424.length co46] 30 (0, 0)) (by (with_reducible repeat (first | refine blk_drewN ?_ _ | refine blk_drew ?_ | refine blk_alloc ?_ _)); exact BK428.out)) : gb428 ≠ gb441))
         have n21_ := Aside0.mk ((by rw [hg]; exact Nat.ne_of_gt (blk_lt (g := gb428) (o := .cells #[.bool t419, .bool t420, .slice Ao44 t421.length co44, .slice Ao46 t424.length co46] 30 (0, 0)) (by (with_reducible repeat (first | refine blk_drewN ?_ _ | refine blk_drew ?_ | refine blk_alloc ?_ _)); exact BK428.out)) : gb441 ≠ gb428))
         clear HO418
         clear HO423
         clear HO426
         clear BK405
         clear BK406
         clear BK411
         clear BK415
         clear BK428
         clear HB
         have HO418 := n0_
         have HO423 := n1_
         have HO426 := n2_
         have BK405 := n3_
         have BK406 := n4_
         have BK411 := n5_
         have BK415 := n6_
         have BK428 := n7_
         have HB := n8_
         have BK441 := n9_
         have GW441 := n10_
         have GE441 := n11_
         have NB405_441 := n12_
         have NB441_405 := n13_
         have NB406_441 := n14_
         have NB441_406 := n15_
         have NB411_441 := n16_
         have NB441_411 := n17_
         have NB415_441 := n18_
         have NB441_415 := n19_
         have NB428_441 := n20_
         have NB441_428 := n21_
         clear n0_ n1_ n2_ n3_ n4_ n5_ n6_ n7_ n8_ n9_ n10_ n11_ n12_ n13_ n14_ n15_ n16_ n17_ n18_ n19_ n20_ n21_
         clear hb hbox hg
         refine hK.out _ _ ⟨(blk_cell BK415.out 0).trans rfl, (blk_cell BK415.out 1).trans rfl, (blk_cell BK415.out 2).trans rfl, (blk_cell BK411.out 0).trans rfl, (blk_cell BK411.out 1).trans rfl, (blk_cell BK411.out 2).trans rfl⟩ (fun hHeld => ?_)
         clear hK K
         refine norm_ (a' := ?_) ?_ ?_
         rotate_left
         ·show Act.put _ (some 10) _ = _
          simp only [Act.put, List.setIfInBounds_toArray, List.set_cons_zero, List.set_cons_succ, i64_w, i32_w]
          rfl
         refine one_ (i := 2) (N := some 28) #[true, true, true, true, false, false, false, false, true, false, false] rfl rfl (one_of HT_.out (by kernel_rfl)) (by decide) (fun K hK => ?_)
         refine goes_ Tryd.func12 (by kernel_rfl) rfl #[.agg #[.int .i64 t412, .int .i64 t413, .int .i64 t414], .int .u8 15, .int .u8 0] (by rfl) rfl rfl (by (try simp only [List.map_toArray, List.map_cons, List.map_nil]); first | done | rfl | (simp only [List.length_drop, List.length_take]; rfl)) ?_
         with_reducible refine (gambrellaw22_states.calls k t412 t413 t414 15 0 t429 _ A8.out).mono ?_
         rintro e w51 ⟨v430, rfl, ho0, hb⟩
         refine ⟨_, rfl, ?_⟩
         have n0_ := Aside0.mk (Kd.R_elder' (by (with_reducible repeat (first | apply Kd.R_alloc | apply Kd.R_drewN | apply Kd.R_drew)); exact HO418.out) (Kd.R_base ho0) hb)
         have n1_ := Aside0.mk (Kd.R_below (by (with_reducible repeat (first | apply Kd.R_alloc | apply Kd.R_drewN | apply Kd.R_drew)); exact HO423.out) hb)
         have n2_ := Aside0.mk (Kd.R_below (by (with_reducible repeat (first | apply Kd.R_alloc | apply Kd.R_drewN | apply Kd.R_drew)); exact HO426.out) hb)
         have n3_ := Aside0.mk (Kd.R_lower (Kd.R_new' ho0 (Kd.R_lt (by (with_reducible repeat (first | apply Kd.R_alloc | apply Kd.R_drewN | apply Kd.R_drew)); exact HO418.out))) (below_size (by repeat (first | (with_reducible first | exact HB.out | apply below_alloc | apply pw_below_drewN | apply below_drew1 | refine below_set ?_ GE405.out | refine below_set ?_ GE406.out | refine below_set ?_ GE411.out | refine below_set ?_ GE415.out | refine below_set ?_ GE428.out | refine below_set ?_ GE441.out) | exact HB.out))))
         have n4_ := Aside0.mk (blk_below (g := gb405) (o := .cells #[.int .u8 a0_0, .int .u8 a0_1, .int .u8 a0_2] 39 (0, 0)) (by (with_reducible repeat (first | refine blk_drewN ?_ _ | refine blk_drew ?_ | refine blk_alloc ?_ _)); exact BK405.out) hb)
         have n5_ := Aside0.mk (blk_below (g := gb406) (o := .cells #[.int .u8 a1_0, .int .u8 a1_1, .int .u8 a1_2] 39 (0, 0)) (by (with_reducible repeat (first | refine blk_drewN ?_ _ | refine blk_drew ?_ | refine blk_alloc ?_ _)); exact BK406.out) hb)
         have n6_ := Aside0.mk (blk_below (g := gb411) (o := .cells #[.int .i64 t408, .int .i64 t409, .int .i64 t410] 23 (0, 0)) (by (with_reducible repeat (first | refine blk_drewN ?_ _ | refine blk_drew ?_ | refine blk_alloc ?_ _)); exact BK411.out) hb)
         have n7_ := Aside0.mk (blk_below (g := gb415) (o := .cells #[.int .i64 t412, .int .i64 t413, .int .i64 t414] 23 (0, 0)) (by (with_reducible repeat (first | refine blk_drewN ?_ _ | refine blk_drew ?_ | refine blk_alloc ?_ _)); exact BK415.out) hb)
         have n8_ := Aside0.mk (blk_below (g := gb428) (o := .cells #[.bool t419, .bool t420, .slice Ao44 t421.length co44, .slice Ao46 t424.length co46] 30 (0, 0)) (by (with_reducible repeat (first | refine blk_drewN ?_ _ | refine blk_drew ?_ | refine blk_alloc ?_ _)); exact BK428.out) hb)
         have n9_ := Aside0.mk (blk_below (g := gb441) (o := .cells #[.bool false, .bool false, .slice none 0 0, .slice none 0 0] 30 (0, 0)) (by (with_reducible repeat (first | refine blk_drewN ?_ _ | refine blk_drew ?_ | refine blk_alloc ?_ _)); exact BK441.out) hb)
         have n10_ := Aside0.mk (below_step (by repeat (first | (with_reducible first | exact HB.out | apply below_alloc | apply pw_below_drewN | apply below_drew1 | refine below_set ?_ GE405.out | refine below_set ?_ GE406.out | refine below_set ?_ GE411.out | refine below_set ?_ GE415.out | refine below_set ?_ GE428.out | refine below_set ?_ GE441.out) | exact HB.out)) hb)
         clear HO418
         clear HO423
         clear HO426
         clear BK405
         clear BK406
         clear BK411
         clear BK415
         clear BK428
         clear BK441
         clear HB
         have HO418 := n0_
         have HO423 := n1_
         have HO426 := n2_
         have HO431 := n3_
         have BK405 := n4_
         have BK406 := n5_
         have BK411 := n6_
         have BK415 := n7_
         have BK428 := n8_
         have BK441 := n9_
         have HB := n10_
         clear n0_ n1_ n2_ n3_ n4_ n5_ n6_ n7_ n8_ n9_ n10_
         (try clear hb)
         (try clear hb2)
         (try clear hk)
         (try clear hi)
         (try clear ho0)
         obtain ⟨Ao52, co52, eo52⟩ := Kd.R_slice HO431.out
         (first | subst eo52 | (injection eo52 with f1_ f2_ f3_; have f4_ := f1_.symm; have f5_ := f3_.symm; clear f1_ f2_ f3_; subst f4_; subst f5_))
         refine hK.out _ _ ⟨(blk_cell BK415.out 0).trans rfl, (blk_cell BK415.out 1).trans rfl, (blk_cell BK415.out 2).trans rfl, (blk_cell BK411.out 0).trans rfl, (blk_cell BK411.out 1).trans rfl, (blk_cell BK411.out 2).trans rfl⟩ (fun hHeld => ?_)
         clear hK K
         refine norm_ (a' := ?_) ?_ ?_
         rotate_left
         ·show Act.put _ (some 28) _ = _
          simp only [Act.put, List.setIfInBounds_toArray, List.set_cons_zero, List.set_cons_succ, i64_w, i32_w]
          rfl
         refine one_ (i := 4) (N := some 30) #[true, true, true, true, true, false, false, false, true, false, false] rfl rfl (one_of HT_.out (by kernel_rfl)) (by decide) (fun K hK => ?_)
         refine goes_ Tryd.func8 (by kernel_rfl) rfl #[.string (⟨#[97, 98, 99]⟩ : ByteArray), .agg #[.int .i64 t412, .int .i64 t413, .int .i64 t414], .slice Ao52 t429.length co52, .agg #[.int .i64 t408, .int .i64 t409, .int .i64 t410]] (by rfl) rfl rfl (by (try simp only [List.map_toArray, List.map_cons, List.map_nil]); first | done | rfl | (simp only [List.length_drop, List.length_take]; rfl)) ?_
         with_reducible refine (plan_Of.calls k (⟨#[97, 98, 99]⟩ : ByteArray) t412 t413 t414 _ _ t429 t408 t409 t410 t432 t433 t434 t437 t440 _ ?side1 ?side2 A9.out).mono ?_
         (case side1 => repeat (first | exact (Kd.R_reads' HO431.out).2.2 | (with_reducible refine Kd.C_alloc ?_ _) | (with_reducible refine Kd.C_drewN ?_ _) | (with_reducible refine Kd.C_drew ?_)))
         (case side2 => exact (Kd.R_reads' HO431.out).2.1)
         rintro e w53 ⟨v435, v438, rfl, ho0, ho1, hb⟩
         refine ⟨_, rfl, ?_⟩
         have n0_ := Aside0.mk (Kd.R_below (by (with_reducible repeat (first | apply Kd.R_alloc | apply Kd.R_drewN | apply Kd.R_drew)); exact HO418.out) hb)
         have n1_ := Aside0.mk (Kd.R_mono (Kd.R_told (Kd.R_told (Kd.R_old (by (with_reducible repeat (first | apply Kd.R_alloc | apply Kd.R_drewN | apply Kd.R_drew)); exact HO423.out) hb) (Kd.R_base ho0)) (Kd.R_base ho1)) (fun _ h_ => h_.1))
         have n2_ := Aside0.mk (Kd.R_mono (Kd.R_told (Kd.R_told (Kd.R_old (by (with_reducible repeat (first | apply Kd.R_alloc | apply Kd.R_drewN | apply Kd.R_drew)); exact HO426.out) hb) (Kd.R_base ho0)) (Kd.R_base ho1)) (fun _ h_ => h_.1))
         have n3_ := Aside0.mk (Kd.R_below (by (with_reducible repeat (first | apply Kd.R_alloc | apply Kd.R_drewN | apply Kd.R_drew)); exact HO431.out) hb)
         have n4_ := Aside0.mk (Kd.R_lower (Kd.R_new' (Kd.R_new' ho0 (Kd.R_lt (by (with_reducible repeat (first | apply Kd.R_alloc | apply Kd.R_drewN | apply Kd.R_drew)); exact HO423.out))) (Kd.R_lt (by (with_reducible repeat (first | apply Kd.R_alloc | apply Kd.R_drewN | apply Kd.R_drew)); exact HO426.out))) (below_size (by repeat (first | (with_reducible first | exact HB.out | apply below_alloc | apply pw_below_drewN | apply below_drew1 | refine below_set ?_ GE405.out | refine below_set ?_ GE406.out | refine below_set ?_ GE411.out | refine below_set ?_ GE415.out | refine below_set ?_ GE428.out | refine below_set ?_ GE441.out) | exact HB.out))))
         have n5_ := Aside0.mk (Kd.R_lower (Kd.R_new' (Kd.R_new' ho1 (Kd.R_lt (by (with_reducible repeat (first | apply Kd.R_alloc | apply Kd.R_drewN | apply Kd.R_drew)); exact HO423.out))) (Kd.R_lt (by (with_reducible repeat (first | apply Kd.R_alloc | apply Kd.R_drewN | apply Kd.R_drew)); exact HO426.out))) (below_size (by repeat (first | (with_reducible first | exact HB.out | apply below_alloc | apply pw_below_drewN | apply below_drew1 | refine below_set ?_ GE405.out | refine below_set ?_ GE406.out | refine below_set ?_ GE411.out | refine below_set ?_ GE415.out | refine below_set ?_ GE428.out | refine below_set ?_ GE441.out) | exact HB.out))))
         have n6_ := Aside0.mk (blk_below (g := gb405) (o := .cells #[.int .u8 a0_0, .int .u8 a0_1, .int .u8 a0_2] 39 (0, 0)) (by (with_reducible repeat (first | refine blk_drewN ?_ _ | refine blk_drew ?_ | refine blk_alloc ?_ _)); exact BK405.out) hb)
         have n7_ := Aside0.mk (blk_below (g := gb406) (o := .cells #[.int .u8 a1_0, .int .u8 a1_1, .int .u8 a1_2] 39 (0, 0)) (by (with_reducible repeat (first | refine blk_drewN ?_ _ | refine blk_drew ?_ | refine blk_alloc ?_ _)); exact BK406.out) hb)
         have n8_ := Aside0.mk (blk_below (g := gb411) (o := .cells #[.int .i64 t408, .int .i64 t409, .int .i64 t410] 23 (0, 0)) (by (with_reducible repeat (first | refine blk_drewN ?_ _ | refine blk_drew ?_ | refine blk_alloc ?_ _)); exact BK411.out) hb)
         have n9_ := Aside0.mk (blk_below (g := gb415) (o := .cells #[.int .i64 t412, .int .i64 t413, .int .i64 t414] 23 (0, 0)) (by (with_reducible repeat (first | refine blk_drewN ?_ _ | refine blk_drew ?_ | refine blk_alloc ?_ _)); exact BK415.out) hb)
         have n10_ := Aside0.mk (blk_below (g := gb428) (o := .cells #[.bool t419, .bool t420, .slice Ao44 t421.length co44, .slice Ao46 t424.length co46] 30 (0, 0)) (by (with_reducible repeat (first | refine blk_drewN ?_ _ | refine blk_drew ?_ | refine blk_alloc ?_ _)); exact BK428.out) hb)
         have n11_ := Aside0.mk (blk_below (g := gb441) (o := .cells #[.bool false, .bool false, .slice none 0 0, .slice none 0 0] 30 (0, 0)) (by (with_reducible repeat (first | refine blk_drewN ?_ _ | refine blk_drew ?_ | refine blk_alloc ?_ _)); exact BK441.out) hb)
         have n12_ := Aside0.mk (below_step (by repeat (first | (with_reducible first | exact HB.out | apply below_alloc | apply pw_below_drewN | apply below_drew1 | refine below_set ?_ GE405.out | refine below_set ?_ GE406.out | refine below_set ?_ GE411.out | refine below_set ?_ GE415.out | refine below_set ?_ GE428.out | refine below_set ?_ GE441.out) | exact HB.out)) hb)
         clear HO418
         clear HO423
         clear HO426
         clear HO431
         clear BK405
         clear BK406
         clear BK411
         clear BK415
         clear BK428
         clear BK441
         clear HB
         have HO418 := n0_
         have HO423 := n1_
         have HO426 := n2_
         have HO431 := n3_
         have HO436 := n4_
         have HO439 := n5_
         have BK405 := n6_
         have BK406 := n7_
         have BK411 := n8_
         have BK415 := n9_
         have BK428 := n10_
         have BK441 := n11_
         have HB := n12_
         clear n0_ n1_ n2_ n3_ n4_ n5_ n6_ n7_ n8_ n9_ n10_ n11_ n12_
         (try clear hb)
         (try clear hb2)
         (try clear hk)
         (try clear hi)
         (try clear ho0)
         (try clear ho1)
         refine hK.out _ _ ⟨(blk_cell BK415.out 0).trans rfl, (blk_cell BK415.out 1).trans rfl, (blk_cell BK415.out 2).trans rfl, (blk_cell BK411.out 0).trans rfl, (blk_cell BK411.out 1).trans rfl, (blk_cell BK411.out 2).trans rfl⟩ (fun hHeld => ?_)
         clear hK K
         refine norm_ (a' := ?_) ?_ ?_
         rotate_left
         ·show Act.put _ (some 30) _ = _
          simp only [Act.put, List.setIfInBounds_toArray, List.set_cons_zero, List.set_cons_succ, i64_w, i32_w]
          rfl
         refine pure_ (i := 5) (N := some 25) (v := ?_) (a' := ?_) #[true, true, true, true, true, true, false, false, true, false, false] rfl rfl (any_of HT_.out (by kernel_rfl)) (fun _ _ _ h => h) (Or.inl ⟨by rfl, ?_⟩) ?_ ?_
         rotate_left
         ·intro w'
          go_simp
          with_reducible rfl
         rotate_left
         ·simp only [Act.put, List.setIfInBounds_toArray, List.set_cons_zero, List.set_cons_succ, i64_w, i32_w]
          rfl
         refine pure_ (i := 6) (N := some 31) (v := ?_) (a' := ?_) #[true, true, true, true, true, true, true, false, true, false, false] rfl rfl (any_of HT_.out (by kernel_rfl)) (fun _ _ _ h => h) (Or.inl ⟨by rfl, ?_⟩) ?_ ?_
         rotate_left
         ·intro w'
          go_simp
          with_reducible rfl
         rotate_left
         ·simp only [Act.put, List.setIfInBounds_toArray, List.set_cons_zero, List.set_cons_succ, i64_w, i32_w]
          rfl
         refine pure_ (i := 7) (N := some 32) (v := ?_) (a' := ?_) #[true, true, true, true, true, true, true, true, true, false, false] rfl rfl (any_of HT_.out (by kernel_rfl)) (fun _ _ _ h => h) (Or.inl ⟨by rfl, ?_⟩) ?_ ?_
         rotate_left
         ·intro w'
          go_simp
          with_reducible rfl
         rotate_left
         ·simp only [Act.put, List.setIfInBounds_toArray, List.set_cons_zero, List.set_cons_succ, i64_w, i32_w]
          rfl
         exact norm_ (by simp only [putAll, Act.put, List.setIfInBounds_toArray, List.set_cons_zero, List.set_cons_succ]) (hCont (.slice Ao52 t429.length co52, v435, v438, gb441) _ ⟨hHeld, (by (with_reducible repeat (first | apply Kd.R_alloc | apply Kd.R_drewN | apply Kd.R_drew)); exact Kd.R_mono HO418.out (fun _ hk => hk.2)), (by (with_reducible repeat (first | apply Kd.R_alloc | apply Kd.R_drewN | apply Kd.R_drew)); exact Kd.R_mono HO423.out (fun _ hk => ⟨hk.1.1, ⟨hk.1.2, hk.2⟩⟩)), (by (with_reducible repeat (first | apply Kd.R_alloc | apply Kd.R_drewN | apply Kd.R_drew)); exact Kd.R_mono HO426.out (fun _ hk => ⟨hk.1.1, ⟨hk.1.2, hk.2⟩⟩)), (by (with_reducible repeat (first | apply Kd.R_alloc | apply Kd.R_drewN | apply Kd.R_drew)); exact Kd.R_mono HO431.out (fun _ hk => hk.2)), (by (with_reducible repeat (first | apply Kd.R_alloc | apply Kd.R_drewN | apply Kd.R_drew)); exact Kd.R_mono HO436.out (fun _ hk => ⟨hk.1.2, ⟨hk.2, hk.1.1⟩⟩)), (by (with_reducible repeat (first | apply Kd.R_alloc | apply Kd.R_drewN | apply Kd.R_drew)); exact Kd.R_mono HO439.out (fun _ hk => ⟨hk.1.2, ⟨hk.2, hk.1.1⟩⟩)), (by (with_reducible repeat (first | refine blk_drewN ?_ _ | refine blk_drew ?_ | refine blk_alloc ?_ _)); exact BK405.out), (by (with_reducible repeat (first | refine blk_drewN ?_ _ | refine blk_drew ?_ | refine blk_alloc ?_ _)); exact BK406.out), (by (with_reducible repeat (first | refine blk_drewN ?_ _ | refine blk_drew ?_ | refine blk_alloc ?_ _)); exact BK411.out), (by (with_reducible repeat (first | refine blk_drewN ?_ _ | refine blk_drew ?_ | refine blk_alloc ?_ _)); exact BK415.out), (by (with_reducible repeat (first | refine blk_drewN ?_ _ | refine blk_drew ?_ | refine blk_alloc ?_ _)); exact BK428.out), (by (with_reducible repeat (first | refine blk_drewN ?_ _ | refine blk_drew ?_ | refine blk_alloc ?_ _)); exact BK441.out), GW441.out, GE441.out, NB405_441.out, NB441_405.out, NB406_441.out, NB441_406.out, NB411_441.out, NB441_411.out, NB415_441.out, NB441_415.out, NB428_441.out, NB441_428.out, (by repeat (first | (with_reducible first | exact HB.out | apply below_alloc | apply pw_below_drewN | apply below_drew1 | refine below_set ?_ GE405.out | refine below_set ?_ GE406.out | refine below_set ?_ GE411.out | refine below_set ?_ GE415.out | refine below_set ?_ GE428.out | refine below_set ?_ GE441.out) | exact HB.out))⟩)
       rintro ⟨v430, v435, v438, gb441⟩ w54 ⟨hS_, h0_, h1_, h2_, h3_, h4_, h5_, h6_, h7_, h8_, h9_, h10_, h11_, h12_, h13_, h14_, h15_, h16_, h17_, h18_, h19_, h20_, h21_, h22_, h23_, h24_⟩
       have n0_ : Aside0 (Kd.R (Kd.int .i64) 3 w54 w.heap.size (fun k_ => some k_ ≠ (v430 : Value).ownBlock) v417 t416) := ⟨h0_⟩
       have n1_ : Aside0 (Kd.R Kd.string 9 w54 w.heap.size (fun k_ => some k_ ≠ (.slice Ao46 t424.length co46 : Value).ownBlock ∧ some k_ ≠ (v435 : Value).ownBlock ∧ some k_ ≠ (v438 : Value).ownBlock) (.slice Ao44 t421.length co44) t421) := ⟨h1_⟩
       have n2_ : Aside0 (Kd.R Kd.string 9 w54 w.heap.size (fun k_ => some k_ ≠ (.slice Ao44 t421.length co44 : Value).ownBlock ∧ some k_ ≠ (v435 : Value).ownBlock ∧ some k_ ≠ (v438 : Value).ownBlock) (.slice Ao46 t424.length co46) t424) := ⟨h2_⟩
       have n3_ : Aside0 (Kd.R (Kd.int .i64) 3 w54 w.heap.size (fun k_ => some k_ ≠ (v417 : Value).ownBlock) v430 t429) := ⟨h3_⟩
       have n4_ : Aside0 (Kd.R Kd.string 9 w54 w.heap.size (fun k_ => some k_ ≠ (.slice Ao44 t421.length co44 : Value).ownBlock ∧ some k_ ≠ (.slice Ao46 t424.length co46 : Value).ownBlock ∧ some k_ ≠ (v438 : Value).ownBlock) v435 t434) := ⟨h4_⟩
       have n5_ : Aside0 (Kd.R Kd.string 9 w54 w.heap.size (fun k_ => some k_ ≠ (.slice Ao44 t421.length co44 : Value).ownBlock ∧ some k_ ≠ (.slice Ao46 t424.length co46 : Value).ownBlock ∧ some k_ ≠ (v435 : Value).ownBlock) v438 t437) := ⟨h5_⟩
       have n6_ : Aside0 (w54.heap[gb405]? = some (.cells #[.int .u8 a0_0, .int .u8 a0_1, .int .u8 a0_2] 39 (0, 0))) := ⟨h6_⟩
       have n7_ : Aside0 (w54.heap[gb406]? = some (.cells #[.int .u8 a1_0, .int .u8 a1_1, .int .u8 a1_2] 39 (0, 0))) := ⟨h7_⟩
       have n8_ : Aside0 (w54.heap[gb411]? = some (.cells #[.int .i64 t408, .int .i64 t409, .int .i64 t410] 23 (0, 0))) := ⟨h8_⟩
       have n9_ : Aside0 (w54.heap[gb415]? = some (.cells #[.int .i64 t412, .int .i64 t413, .int .i64 t414] 23 (0, 0))) := ⟨h9_⟩
       have n10_ : Aside0 (w54.heap[gb428]? = some (.cells #[.bool t419, .bool t420, .slice Ao44 t421.length co44, .slice Ao46 t424.length co46] 30 (0, 0))) := ⟨h10_⟩
       have n11_ : Aside0 (w54.heap[gb441]? = some (.cells #[.bool false, .bool false, .slice none 0 0, .slice none 0 0] 30 (0, 0))) := ⟨h11_⟩
       have n12_ : Aside0 (w.heap.size ≤ gb441) := ⟨h12_⟩
       have n13_ : Aside0 (w.heap.size ≤ gb441) := ⟨h13_⟩
       have n14_ : Aside0 (gb405 ≠ gb441) := ⟨h14_⟩
       have n15_ : Aside0 (gb441 ≠ gb405) := ⟨h15_⟩
       have n16_ : Aside0 (gb406 ≠ gb441) := ⟨h16_⟩
       have n17_ : Aside0 (gb441 ≠ gb406) := ⟨h17_⟩
       have n18_ : Aside0 (gb411 ≠ gb441) := ⟨h18_⟩
       have n19_ : Aside0 (gb441 ≠ gb411) := ⟨h19_⟩
       have n20_ : Aside0 (gb415 ≠ gb441) := ⟨h20_⟩
       have n21_ : Aside0 (gb441 ≠ gb415) := ⟨h21_⟩
       have n22_ : Aside0 (gb428 ≠ gb441) := ⟨h22_⟩
       have n23_ : Aside0 (gb441 ≠ gb428) := ⟨h23_⟩
       have n24_ : Aside0 (Below w.heap.size w w54) := ⟨h24_⟩
       clear HO418
       clear HO423
       clear HO426
       clear BK405
       clear BK406
       clear BK411
       clear BK415
       clear BK428
       clear HB
       clear h0_ h1_ h2_ h3_ h4_ h5_ h6_ h7_ h8_ h9_ h10_ h11_ h12_ h13_ h14_ h15_ h16_ h17_ h18_ h19_ h20_ h21_ h22_ h23_ h24_
       have HO418 := n0_
       have HO423 := n1_
       have HO426 := n2_
       have HO431 := n3_
       have HO436 := n4_
       have HO439 := n5_
       have BK405 := n6_
       have BK406 := n7_
       have BK411 := n8_
       have BK415 := n9_
       have BK428 := n10_
       have BK441 := n11_
       have GW441 := n12_
       have GE441 := n13_
       have NB405_441 := n14_
       have NB441_405 := n15_
       have NB406_441 := n16_
       have NB441_406 := n17_
       have NB411_441 := n18_
       have NB441_411 := n19_
       have NB415_441 := n20_
       have NB441_415 := n21_
       have NB428_441 := n22_
       have NB441_428 := n23_
       have HB := n24_
       clear n0_ n1_ n2_ n3_ n4_ n5_ n6_ n7_ n8_ n9_ n10_ n11_ n12_ n13_ n14_ n15_ n16_ n17_ n18_ n19_ n20_ n21_ n22_ n23_ n24_
       have hHeld : w54.cell? ⟨gb415, 0, none⟩ = some (.int .i64 t412) ∧ w54.cell? ⟨gb415, 1, none⟩ = some (.int .i64 t413) ∧ w54.cell? ⟨gb415, 2, none⟩ = some (.int .i64 t414) ∧ w54.cell? ⟨gb411, 0, none⟩ = some (.int .i64 t408) ∧ w54.cell? ⟨gb411, 1, none⟩ = some (.int .i64 t409) ∧ w54.cell? ⟨gb411, 2, none⟩ = some (.int .i64 t410) := hS_
       obtain ⟨Ao57, co57, eo57⟩ := Kd.R_slice HO436.out
       (first | subst eo57 | (injection eo57 with f1_ f2_ f3_; have f4_ := f1_.symm; have f5_ := f3_.symm; clear f1_ f2_ f3_; subst f4_; subst f5_))
       obtain ⟨Ao59, co59, eo59⟩ := Kd.R_slice HO439.out
       (first | subst eo59 | (injection eo59 with f1_ f2_ f3_; have f4_ := f1_.symm; have f5_ := f3_.symm; clear f1_ f2_ f3_; subst f4_; subst f5_))
       refine norm_ (a' := ?_) ?_ ?_
       rotate_left
       ·simp only [putAll, Act.put, List.setIfInBounds_toArray, List.set_cons_zero, List.set_cons_succ]
        rfl
       refine one_ (i := 9) (N := none) #[true, true, true, true, true, true, true, true, true, true, false] rfl rfl (one_of HT_.out (by kernel_rfl)) (by decide) (fun K hK => ?_)
       have hs55 : w54.cell? ⟨gb441, 0, none⟩ = some (.bool false) := (blk_cell BK441.out 0).trans rfl
       have hfs55 := blk_frozen BK441.out 0
       have hns55_0 := NB405_441.out
       have hns55_1 := NB406_441.out
       have hns55_2 := NB411_441.out
       have hns55_3 := NB415_441.out
       have hns55_4 := NB428_441.out
       have hms55_0 := NB441_405.out
       have hms55_1 := NB441_406.out
       have hms55_2 := NB441_411.out
       have hms55_3 := NB441_415.out
       have hms55_4 := NB441_428.out
       have hs56 : w54.cell? ⟨gb441, 1, none⟩ = some (.bool false) := (blk_cell BK441.out 1).trans rfl
       have hfs56 := blk_frozen BK441.out 1
       have hns56_0 := NB405_441.out
       have hns56_1 := NB406_441.out
       have hns56_2 := NB411_441.out
       have hns56_3 := NB415_441.out
       have hns56_4 := NB428_441.out
       have hms56_0 := NB441_405.out
       have hms56_1 := NB441_406.out
       have hms56_2 := NB441_411.out
       have hms56_3 := NB441_415.out
       have hms56_4 := NB441_428.out
       have hs58 : w54.cell? ⟨gb441, 2, none⟩ = some (.slice none 0 0) := (blk_cell BK441.out 2).trans rfl
       have hfs58 := blk_frozen BK441.out 2
       have hns58_0 := NB405_441.out
       have hns58_1 := NB406_441.out
       have hns58_2 := NB411_441.out
       have hns58_3 := NB415_441.out
       have hns58_4 := NB428_441.out
       have hms58_0 := NB441_405.out
       have hms58_1 := NB441_406.out
       have hms58_2 := NB441_411.out
       have hms58_3 := NB441_415.out
       have hms58_4 := NB441_428.out
       have hs60 : w54.cell? ⟨gb441, 3, none⟩ = some (.slice none 0 0) := (blk_cell BK441.out 3).trans rfl
       have hfs60 := blk_frozen BK441.out 3
       have hns60_0 := NB405_441.out
       have hns60_1 := NB406_441.out
       have hns60_2 := NB411_441.out
       have hns60_3 := NB415_441.out
       have hns60_4 := NB428_441.out
       have hms60_0 := NB441_405.out
       have hms60_1 := NB441_406.out
       have hms60_2 := NB441_411.out
       have hms60_3 := NB441_415.out
       have hms60_4 := NB441_428.out
       refine skip_ (w1 := ?_) (by rfl) rfl ?_ ?_
       rotate_left
       ·go_simp
        rfl
       refine hK.out _ _ ⟨((cell_far (p := ⟨gb441, _, none⟩) NB415_441.out _).trans (((cell_far (p := ⟨gb441, _, none⟩) NB415_441.out _).trans (((cell_far (p := ⟨gb441, _, none⟩) NB415_441.out _).trans (((cell_far (p := ⟨gb441, _, none⟩) NB415_441.out _).trans (hHeld.1)))))))), ((cell_far (p := ⟨gb441, _, none⟩) NB415_441.out _).trans (((cell_far (p := ⟨gb441, _, none⟩) NB415_441.out _).trans (((cell_far (p := ⟨gb441, _, none⟩) NB415_441.out _).trans (((cell_far (p := ⟨gb441, _, none⟩) NB415_441.out _).trans (hHeld.2.1)))))))), ((cell_far (p := ⟨gb441, _, none⟩) NB415_441.out _).trans (((cell_far (p := ⟨gb441, _, none⟩) NB415_441.out _).trans (((cell_far (p := ⟨gb441, _, none⟩) NB415_441.out _).trans (((cell_far (p := ⟨gb441, _, none⟩) NB415_441.out _).trans (hHeld.2.2.1)))))))), ((cell_far (p := ⟨gb441, _, none⟩) NB411_441.out _).trans (((cell_far (p := ⟨gb441, _, none⟩) NB411_441.out _).trans (((cell_far (p := ⟨gb441, _, none⟩) NB411_441.out _).trans (((cell_far (p := ⟨gb441, _, none⟩) NB411_441.out _).trans (hHeld.2.2.2.1)))))))), ((cell_far (p := ⟨gb441, _, none⟩) NB411_441.out _).trans (((cell_far (p := ⟨gb441, _, none⟩) NB411_441.out _).trans (((cell_far (p := ⟨gb441, _, none⟩) NB411_441.out _).trans (((cell_far (p := ⟨gb441, _, none⟩) NB411_441.out _).trans (hHeld.2.2.2.2.1)))))))), ((cell_far (p := ⟨gb441, _, none⟩) NB411_441.out _).trans (((cell_far (p := ⟨gb441, _, none⟩) NB411_441.out _).trans (((cell_far (p := ⟨gb441, _, none⟩) NB411_441.out _).trans (((cell_far (p := ⟨gb441, _, none⟩) NB411_441.out _).trans (hHeld.2.2.2.2.2))))))))⟩ (fun hHeld => ?_)
       clear hK K
       refine pure_ (i := 10) (N := some 11) (v := ?_) (a' := ?_) #[true, true, true, true, true, true, true, true, true, true, true] rfl rfl (any_of HT_.out (by kernel_rfl)) (fun _ _ _ h => h) (Or.inl ⟨by rfl, ?_⟩) ?_ ?_
       rotate_left
       ·intro w'
        go_simp
        with_reducible rfl
       rotate_left
       ·simp only [Act.put, List.setIfInBounds_toArray, List.set_cons_zero, List.set_cons_succ, i64_w, i32_w]
        rfl
       refine done_ (done_of HT_.out (by kernel_rfl)) ?_
       have hnb61 := NB428_405.out
       have hnc61 := NB405_428.out
       have hnb62 := NB428_406.out
       have hnc62 := NB406_428.out
       have hnb63 := NB428_411.out
       have hnc63 := NB411_428.out
       have hnb64 := NB428_415.out
       have hnc64 := NB415_428.out
       have hnb65 := NB428_441.out
       have hnc65 := NB441_428.out
       have hcz66_0 : w54.cell? ⟨gb428, 0, none⟩ = some (.bool t419) := (blk_cell BK428.out 0).trans rfl
       have hcz66_1 : w54.cell? ⟨gb428, 1, none⟩ = some (.bool t420) := (blk_cell BK428.out 1).trans rfl
       have hcz66_2 : w54.cell? ⟨gb428, 2, none⟩ = some (.slice Ao44 t421.length co44) := (blk_cell BK428.out 2).trans rfl
       have hcz66_3 : w54.cell? ⟨gb428, 3, none⟩ = some (.slice Ao46 t424.length co46) := (blk_cell BK428.out 3).trans rfl
       have hfz66_0 := blk_frozen BK428.out 0
       have hfz66_1 := blk_frozen BK428.out 1
       have hfz66_2 := blk_frozen BK428.out 2
       have hfz66_3 := blk_frozen BK428.out 3
       have hnb67 := NB441_405.out
       have hnc67 := NB405_441.out
       have hnb68 := NB441_406.out
       have hnc68 := NB406_441.out
       have hnb69 := NB441_411.out
       have hnc69 := NB411_441.out
       have hnb70 := NB441_415.out
       have hnc70 := NB415_441.out
       have hcz71_0 : w54.cell? ⟨gb441, 0, none⟩ = some (.bool false) := (blk_cell BK441.out 0).trans rfl
       have hcz71_1 : w54.cell? ⟨gb441, 1, none⟩ = some (.bool false) := (blk_cell BK441.out 1).trans rfl
       have hcz71_2 : w54.cell? ⟨gb441, 2, none⟩ = some (.slice none 0 0) := (blk_cell BK441.out 2).trans rfl
       have hcz71_3 : w54.cell? ⟨gb441, 3, none⟩ = some (.slice none 0 0) := (blk_cell BK441.out 3).trans rfl
       have hfz71_0 := blk_frozen BK441.out 0
       have hfz71_1 := blk_frozen BK441.out 1
       have hfz71_2 := blk_frozen BK441.out 2
       have hfz71_3 := blk_frozen BK441.out 3
       try go_wp2_with (first | (go_at_call 15; (with_reducible refine (gambrelref15_Strings.calls k _ _ t421 _ _ t437 true _ ?side1 ?side2 ?side3 ?side4 A13.out).mono ?_); (case side1 => refine (Kd.R_reads' (e := 9) (base := w.heap.size) (ok := fun k_ => (some k_ ≠ (.slice Ao46 t424.length co46 : Value).ownBlock ∧ (some k_ ≠ (.slice Ao57 t434.length co57 : Value).ownBlock ∧ some k_ ≠ (.slice Ao59 t437.length co59 : Value).ownBlock))) (n := t421.length) (c := co44) ?_).2.2; exact (by (with_reducible repeat (first | apply Kd.R_alloc | apply Kd.R_drewN | apply Kd.R_drew)); exact (Kd.R_mono (Kd.R_far (p := ⟨gb441, 3, none⟩) (Kd.R_far (p := ⟨gb441, 2, none⟩) (Kd.R_far (p := ⟨gb441, 1, none⟩) (Kd.R_far (p := ⟨gb441, 0, none⟩) (Kd.R_types HO423.out BK441.out (by decide)) (fun _ hk => hk.2) (.bool t432)) (fun _ hk => hk.2) (.bool t433)) (fun _ hk => hk.2) (.slice Ao57 t434.length co57)) (fun _ hk => hk.2) (.slice Ao59 t437.length co59)) (fun _ h_ => h_.1)))); (case side2 => exact (Kd.R_reads' HO423.out).2.1); (case side3 => refine (Kd.R_reads' (e := 9) (base := w.heap.size) (ok := fun k_ => (some k_ ≠ (.slice Ao44 t421.length co44 : Value).ownBlock ∧ (some k_ ≠ (.slice Ao46 t424.length co46 : Value).ownBlock ∧ some k_ ≠ (.slice Ao57 t434.length co57 : Value).ownBlock))) (n := t437.length) (c := co59) ?_).2.2; exact (by (with_reducible repeat (first | apply Kd.R_alloc | apply Kd.R_drewN | apply Kd.R_drew)); exact (Kd.R_mono (Kd.R_far (p := ⟨gb441, 3, none⟩) (Kd.R_far (p := ⟨gb441, 2, none⟩) (Kd.R_far (p := ⟨gb441, 1, none⟩) (Kd.R_far (p := ⟨gb441, 0, none⟩) (Kd.R_types HO439.out BK441.out (by decide)) (fun _ hk => hk.2) (.bool t432)) (fun _ hk => hk.2) (.bool t433)) (fun _ hk => hk.2) (.slice Ao57 t434.length co57)) (fun _ hk => hk.2) (.slice Ao59 t437.length co59)) (fun _ h_ => h_.1)))); (case side4 => exact (Kd.R_reads' HO439.out).2.1); rintro e w' ⟨rfl, ⟨nd, rfl⟩⟩) | (go_at_call 15; (with_reducible refine (gambrelref15_Strings.calls k _ _ t424 _ _ t434 true _ ?side1 ?side2 ?side3 ?side4 A15.out).mono ?_); (case side1 => refine (Kd.R_reads' (e := 9) (base := w.heap.size) (ok := fun k_ => (some k_ ≠ (.slice Ao44 t421.length co44 : Value).ownBlock ∧ (some k_ ≠ (.slice Ao57 t434.length co57 : Value).ownBlock ∧ some k_ ≠ (.slice Ao59 t437.length co59 : Value).ownBlock))) (n := t424.length) (c := co46) ?_).2.2; exact (by (with_reducible repeat (first | apply Kd.R_alloc | apply Kd.R_drewN | apply Kd.R_drew)); exact (Kd.R_mono (Kd.R_far (p := ⟨gb441, 3, none⟩) (Kd.R_far (p := ⟨gb441, 2, none⟩) (Kd.R_far (p := ⟨gb441, 1, none⟩) (Kd.R_far (p := ⟨gb441, 0, none⟩) (Kd.R_types HO426.out BK441.out (by decide)) (fun _ hk => hk.2) (.bool t432)) (fun _ hk => hk.2) (.bool t433)) (fun _ hk => hk.2) (.slice Ao57 t434.length co57)) (fun _ hk => hk.2) (.slice Ao59 t437.length co59)) (fun _ h_ => h_.1)))); (case side2 => exact (Kd.R_reads' HO426.out).2.1); (case side3 => refine (Kd.R_reads' (e := 9) (base := w.heap.size) (ok := fun k_ => (some k_ ≠ (.slice Ao44 t421.length co44 : Value).ownBlock ∧ (some k_ ≠ (.slice Ao46 t424.length co46 : Value).ownBlock ∧ some k_ ≠ (.slice Ao59 t437.length co59 : Value).ownBlock))) (n := t434.length) (c := co57) ?_).2.2; exact (by (with_reducible repeat (first | apply Kd.R_alloc | apply Kd.R_drewN | apply Kd.R_drew)); exact (Kd.R_mono (Kd.R_far (p := ⟨gb441, 3, none⟩) (Kd.R_far (p := ⟨gb441, 2, none⟩) (Kd.R_far (p := ⟨gb441, 1, none⟩) (Kd.R_far (p := ⟨gb441, 0, none⟩) (Kd.R_types HO436.out BK441.out (by decide)) (fun _ hk => hk.2) (.bool t432)) (fun _ hk => hk.2) (.bool t433)) (fun _ hk => hk.2) (.slice Ao57 t434.length co57)) (fun _ hk => hk.2) (.slice Ao59 t437.length co59)) (fun _ h_ => h_.1)))); (case side4 => exact (Kd.R_reads' HO436.out).2.1); rintro e w' ⟨rfl, ⟨nd, rfl⟩⟩))
       go_ret
       exact ⟨by first | rfl | (simp [errW_none, errW_some] <;> rfl) | (simp [*, errW_none, errW_some] <;> rfl), by repeat (first | (with_reducible first | exact HB.out | apply below_alloc | apply pw_below_drewN | apply below_drew1 | refine below_set ?_ GE405.out | refine below_set ?_ GE406.out | refine below_set ?_ GE411.out | refine below_set ?_ GE415.out | refine below_set ?_ GE428.out | refine below_set ?_ GE441.out) | exact HB.out)⟩
      ·rw [if_neg c17] at H
       have c17b0 : (t420 == t433) = false := by simpa using c17
       (try (have c17b1 : decide (t420 = t433) = false := by simpa using c17))
       (try (have c17b2 : (t420 == t433) = false := by simpa using c17))
       (try (have c17b3 : ¬ (t420 = t433) := by simpa using c17))
       clear c17
       exact absurd ((Option.some.inj H).trans hr_.out) (by simp)
     ·replace c16 := Bool.eq_false_iff.mpr c16
      subst c16
      have H1 : (some false) = some r := by rw [if_neg (show ¬ (false = true) by decide)] at H; exact H
      clear H
      have H := H1
      clear H1
      exact absurd ((Option.some.inj H).trans hr_.out) (by simp)
    ·replace c14 := Bool.eq_false_iff.mpr c14
     subst c14
     have H1 : (some false) = some r := by rw [if_neg (show ¬ (false = true) by decide)] at H; exact H
     clear H
     have H := H1
     clear H1
     exact absurd ((Option.some.inj H).trans hr_.out) (by simp)
   ·rw [if_neg c12] at H
    have c12b0 : (t440 == 0) = false := beq_eq_false_iff_ne.mpr c12
    have c12b1 : (t440 != 0) = true := bne_iff_ne.mpr c12
    exact absurd ((Option.some.inj H).trans hr_.out) (by simp)
  ·rw [if_neg c11] at H
   have c11b0 : (t427 == 0) = false := beq_eq_false_iff_ne.mpr c11
   have c11b1 : (t427 != 0) = true := bne_iff_ne.mpr c11
   exact absurd ((Option.some.inj H).trans hr_.out) (by simp)
 ·replace c10 := Bool.eq_false_iff.mpr c10
  subst c10
  have H1 : (some false) = some r := by rw [if_neg (show ¬ (false = true) by decide)] at H; exact H
  clear H
  have H := H1
  clear H1
  exact absurd ((Option.some.inj H).trans hr_.out) (by simp)

end Go.Proofs.YtlapjnaaihpeeaaDoor.XPl
