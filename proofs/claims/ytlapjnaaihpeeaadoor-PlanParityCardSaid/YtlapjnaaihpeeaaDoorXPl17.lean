-- WRITTEN BY this work's own program (wip/tools/xprint.py). Not trusted: Lean checks it.
import Derived.Test.YtlapjnaaihpeeaaDoorXPl0
import Derived.Test.YtlapjnaaihpeeaaDoorXPl1
import Derived.Test.YtlapjnaaihpeeaaDoorXPl5
import Derived.Test.YtlapjnaaihpeeaaDoorXPl8
import Derived.Test.YtlapjnaaihpeeaaDoorXPl13
import Derived.Test.YtlapjnaaihpeeaaDoorXPl15
import Derived.Test.YtlapjnaaihpeeaaDoorGplan_Of
namespace Go.Proofs.YtlapjnaaihpeeaaDoor.XPl
open Go.RowKit Go.Proofs.YtlapjnaaihpeeaaDoorW.PrintWords Go.Proofs.YtlapjnaaihpeeaaDoorW.PrintLast Go.Proofs.YtlapjnaaihpeeaaDoorW.PrintMore
attribute [local go_sem] max2_int min2_int max_two min_two max_three min_three max_four min_four   -- for this text's walks alone
set_option linter.unusedVariables false
set_option linter.unusedSimpArgs false

attribute [local go_sem high] eqA23
/-! ### gambrellaw22_PlanParity: function 5 -/
def gambrellaw22_PlanParity.j0 : Nat → Bool → List ByteArray → Bool → Int → Int → Int → Int → Int → Int → Bool → Bool → List ByteArray → List ByteArray → Option (Bool)
 | 0, _, _, _, _, _, _, _, _, _, _, _, _, _ => none
 | k + 1, x5, x12, x70, x365000, x365001, x365002, x369000, x369001, x369002, x382000, x382001, x382002, x382003 => if x70 = true then (some false) else (if x382001 = true then (if x382000 = true then (if x5 = true then (if (eqT23 x365000 x369000 x365001 x369001 x365002 x369002) = true then (some ((x382002.length : Int) == 0)) else (some false)) else (some false)) else (if x5 = true then (if 0 ≤ x369001 then (if x369001 ≤ (x12.length : Int) then ((gambrelref15_Strings.f k x382002 (x12.drop (x369001 : Int).toNat)).bind fun t403 => (if t403 = true then (some ((x382003.length : Int) == x365002)) else (some false))) else (none)) else (none)) else (some false))) else (if x5 = true then ((gambrelref15_Strings.f k x382002 x12).bind fun t404 => (if t404 = true then (some ((x382003.length : Int) == (wrap64 (x365001 + x365002)))) else (some false))) else (some false)))
def gambrellaw22_PlanParity.f (k : Nat) (a0_0 : Int) (a0_1 : Int) (a0_2 : Int) (a1_0 : Int) (a1_1 : Int) (a1_2 : Int) : Option (Bool) := (gambrellaw22_awake.f k).bind fun t360 => ((gambrelref09_Some.f a0_0 a0_1 a0_2).bind fun bt361 => ((gambrelref09_Some.f a1_0 a1_1 a1_2).bind fun bt365 => ((gambrellaw22_states.f k bt361.1 bt361.2.1 bt361.2.2 15 0).bind fun t369 => ((plan_Of.f k (⟨#[97, 98, 99]⟩ : ByteArray) bt361.1 bt361.2.1 bt361.2.2 t369 bt365.1 bt361.2.1 bt365.2.2).bind fun bt372 => ((gambrellaw22_states.f k bt361.1 bt361.2.1 bt361.2.2 15 0).bind fun t382 => ((plan_Of.f k (⟨#[97, 98, 99]⟩ : ByteArray) bt361.1 bt361.2.1 bt361.2.2 t382 bt361.1 bt361.2.1 bt361.2.2).bind fun bt385 => ((gambrelref15_Set.f k (⟨#[97, 98, 99]⟩ : ByteArray) bt365.1 bt361.2.1 bt365.2.2).bind fun bt395 => (if bt372.2.2.2.2 = 0 then (if bt385.2.2.2.2 = 0 then (if (bt385.2.2.1.length : Int) = 0 then (if (bt385.2.2.2.1.length : Int) = 0 then (if bt385.1 = true then (gambrellaw22_PlanParity.j0 k t360 bt395.1 (!bt385.2.1) bt361.1 bt361.2.1 bt361.2.2 bt365.1 bt361.2.1 bt365.2.2 bt372.1 bt372.2.1 bt372.2.2.1 bt372.2.2.2.1) else (gambrellaw22_PlanParity.j0 k t360 bt395.1 true bt361.1 bt361.2.1 bt361.2.2 bt365.1 bt361.2.1 bt365.2.2 bt372.1 bt372.2.1 bt372.2.2.1 bt372.2.2.2.1)) else (gambrellaw22_PlanParity.j0 k t360 bt395.1 true bt361.1 bt361.2.1 bt361.2.2 bt365.1 bt361.2.1 bt365.2.2 bt372.1 bt372.2.1 bt372.2.2.1 bt372.2.2.2.1)) else (gambrellaw22_PlanParity.j0 k t360 bt395.1 true bt361.1 bt361.2.1 bt361.2.2 bt365.1 bt361.2.1 bt365.2.2 bt372.1 bt372.2.1 bt372.2.2.1 bt372.2.2.2.1)) else (gambrellaw22_PlanParity.j0 k t360 bt395.1 true bt361.1 bt361.2.1 bt361.2.2 bt365.1 bt361.2.1 bt365.2.2 bt372.1 bt372.2.1 bt372.2.2.1 bt372.2.2.2.1)) else (gambrellaw22_PlanParity.j0 k t360 bt395.1 true bt361.1 bt361.2.1 bt361.2.2 bt365.1 bt361.2.1 bt365.2.2 bt372.1 bt372.2.1 bt372.2.2.1 bt372.2.2.2.1)))))))))
theorem gambrellaw22_PlanParity.mono_l : ∀ k, (∀ y0 y1 y2 y3 y4 y5 y6 y7 y8 y9 y10 y11 y12, LeO (gambrellaw22_PlanParity.j0 k y0 y1 y2 y3 y4 y5 y6 y7 y8 y9 y10 y11 y12) (gambrellaw22_PlanParity.j0 (k + 1) y0 y1 y2 y3 y4 y5 y6 y7 y8 y9 y10 y11 y12))
 | 0 => fun _ _ _ _ _ _ _ _ _ _ _ _ _ r h => by simp [gambrellaw22_PlanParity.j0] at h
 | k + 1 => by
  have ih0 := gambrellaw22_PlanParity.mono_l k
  ·intro y0 y1 y2 y3 y4 y5 y6 y7 y8 y9 y10 y11 y12
   unfold gambrellaw22_PlanParity.j0
   repeat' first
   | (with_reducible exact ih0 _ _ _ _ _ _ _ _ _ _ _ _ _)
   | (with_reducible exact gambrellaw22_awake.mono _)
   | (with_reducible exact gambrellaw22_states.mono _ _ _ _ _ _)
   | (with_reducible exact gambrelref15_Set.mono _ _ _ _ _)
   | (with_reducible exact gambrelref15_Strings.mono _ _ _)
   | (with_reducible exact plan_Of.mono _ _ _ _ _ _ _ _ _)
   | (with_reducible exact LeO.refl _)
   | (with_reducible exact LeO.none _)
   | (with_reducible refine LeO.ite ?_ ?_)
   | (with_reducible refine LeO.bind ?_ (fun _ => ?_))
   | exact ih0 _ _ _ _ _ _ _ _ _ _ _ _ _
   | exact gambrellaw22_awake.mono _
   | exact gambrellaw22_states.mono _ _ _ _ _ _
   | exact gambrelref15_Set.mono _ _ _ _ _
   | exact gambrelref15_Strings.mono _ _ _
   | exact plan_Of.mono _ _ _ _ _ _ _ _ _
   | exact LeO.none _
   | refine LeO.ite ?_ ?_
   | refine LeO.bind ?_ (fun _ => ?_)
theorem gambrellaw22_PlanParity.mono : ∀ a0 a1 a2 a3 a4 a5 k, LeO (gambrellaw22_PlanParity.f k a0 a1 a2 a3 a4 a5) (gambrellaw22_PlanParity.f (k + 1) a0 a1 a2 a3 a4 a5) := by
 intro a0 a1 a2 a3 a4 a5 k
 have ih0 := gambrellaw22_PlanParity.mono_l k
 unfold gambrellaw22_PlanParity.f
 repeat' first
   | (with_reducible exact ih0 _ _ _ _ _ _ _ _ _ _ _ _ _)
   | (with_reducible exact gambrellaw22_awake.mono _)
   | (with_reducible exact gambrellaw22_states.mono _ _ _ _ _ _)
   | (with_reducible exact gambrelref15_Set.mono _ _ _ _ _)
   | (with_reducible exact gambrelref15_Strings.mono _ _ _)
   | (with_reducible exact plan_Of.mono _ _ _ _ _ _ _ _ _)
   | (with_reducible exact LeO.refl _)
   | (with_reducible exact LeO.none _)
   | (with_reducible refine LeO.ite ?_ ?_)
   | (with_reducible refine LeO.bind ?_ (fun _ => ?_))
   | exact ih0 _ _ _ _ _ _ _ _ _ _ _ _ _
   | exact gambrellaw22_awake.mono _
   | exact gambrellaw22_states.mono _ _ _ _ _ _
   | exact gambrelref15_Set.mono _ _ _ _ _
   | exact gambrelref15_Strings.mono _ _ _
   | exact plan_Of.mono _ _ _ _ _ _ _ _ _
   | exact LeO.none _
   | refine LeO.ite ?_ ?_
   | refine LeO.bind ?_ (fun _ => ?_)
def gambrellaw22_PlanParity.T5 : Bool × List (List Nat × List Nat) := (true, [([], []), ([], []), ([1], [1]), ([], []), ([0, 2, 3, 2], [0, 2, 3]), ([4], [4]), ([5], [5]), ([5], [5]), ([], []), ([8, 6, 4, 0, 1, 2, 3, 4, 5, 6, 8], [6, 8]), ([7, 9, 0, 1, 2, 3, 4, 5, 6, 7, 8, 9], [7])])
def gambrellaw22_PlanParity.B5 : List Nat := [0, 0, 2, 0, 15, 31, 63, 63, 0, 383, 1023]
theorem gambrellaw22_PlanParity.tab5 : rtab .any (opsOf Tryd.f5 5) = gambrellaw22_PlanParity.T5 := by kernel_rfl
theorem gambrellaw22_PlanParity.bits5 : waitsOk gambrellaw22_PlanParity.T5.2 gambrellaw22_PlanParity.B5 = true := by kernel_rfl
def gambrellaw22_PlanParity.T6 : Bool × List (List Nat × List Nat) := (true, [([], []), ([], []), ([1], [1]), ([], []), ([0, 2, 3, 2], [0, 2, 3]), ([4], [4]), ([5], [5]), ([5], [5]), ([], []), ([8, 6, 4, 0, 1, 2, 3, 4, 5, 6, 8], [6, 8]), ([7, 9, 0, 1, 2, 3, 4, 5, 6, 7, 8, 9], [7])])
def gambrellaw22_PlanParity.B6 : List Nat := [0, 0, 2, 0, 15, 31, 63, 63, 0, 383, 1023]
theorem gambrellaw22_PlanParity.tab6 : rtab .any (opsOf Tryd.f5 6) = gambrellaw22_PlanParity.T6 := by kernel_rfl
theorem gambrellaw22_PlanParity.bits6 : waitsOk gambrellaw22_PlanParity.T6.2 gambrellaw22_PlanParity.B6 = true := by kernel_rfl
def gambrellaw22_PlanParity.T14 : Bool × List (List Nat × List Nat) := (true, [([], []), ([0], [0]), ([1], [1]), ([2, 1], [1, 2]), ([1], [1]), ([1], [1]), ([5, 1], [1, 5]), ([4, 6, 1], [1, 4, 6]), ([3, 7, 1, 1], [1, 3, 7]), ([1, 8], [1, 8]), ([9, 8], [9]), ([10], [10]), ([11, 10], [10, 11]), ([12, 10], [10, 12]), ([10], [10]), ([14, 10], [10, 14]), ([13, 15, 10], [10, 13, 15]), ([10, 16], [10, 16]), ([17, 10, 0, 1, 2, 3, 4, 5, 6, 7, 8, 9, 10, 11, 12, 13, 14, 15, 16, 17], [17])])
def gambrellaw22_PlanParity.B14 : List Nat := [0, 1, 3, 7, 3, 3, 35, 115, 255, 511, 1023, 2047, 4095, 8191, 2047, 18431, 65535, 131071, 262143]
theorem gambrellaw22_PlanParity.tab14 : rtab .any (opsOf Tryd.f5 14) = gambrellaw22_PlanParity.T14 := by kernel_rfl
theorem gambrellaw22_PlanParity.bits14 : waitsOk gambrellaw22_PlanParity.T14.2 gambrellaw22_PlanParity.B14 = true := by kernel_rfl
set_option maxHeartbeats 8000000 in
set_option maxRecDepth 100000 in
theorem gambrellaw22_PlanParity.calls (k : Nat) (a0_0 : Int) (a0_1 : Int) (a0_2 : Int) (a1_0 : Int) (a1_1 : Int) (a1_2 : Int) (r : Bool) (w : World) (hr_ : Aside0 (r = true)) (h : gambrellaw22_PlanParity.f k a0_0 a0_1 a0_2 a1_0 a1_1 a1_2 = some r) :
  Calls Tryd.prog 5 #[.agg #[.int .u8 a0_0, .int .u8 a0_1, .int .u8 a0_2], .agg #[.int .u8 a1_0, .int .u8 a1_1, .int .u8 a1_2]] w fun e w' => e = .returned (.bool r) ∧ Below w.heap.size w w' := by
 have hu39 := Tryd.underlying39
 have hu23 := Tryd.underlying23
 have hu30 := Tryd.underlying30
 have HB := Aside0.mk (Below.refl w.heap.size w)
 have H : ((gambrellaw22_awake.f k).bind fun t360 => ((gambrelref09_Some.f a0_0 a0_1 a0_2).bind fun bt361 => ((gambrelref09_Some.f a1_0 a1_1 a1_2).bind fun bt365 => ((gambrellaw22_states.f k bt361.1 bt361.2.1 bt361.2.2 15 0).bind fun t369 => ((plan_Of.f k (⟨#[97, 98, 99]⟩ : ByteArray) bt361.1 bt361.2.1 bt361.2.2 t369 bt365.1 bt361.2.1 bt365.2.2).bind fun bt372 => ((gambrellaw22_states.f k bt361.1 bt361.2.1 bt361.2.2 15 0).bind fun t382 => ((plan_Of.f k (⟨#[97, 98, 99]⟩ : ByteArray) bt361.1 bt361.2.1 bt361.2.2 t382 bt361.1 bt361.2.1 bt361.2.2).bind fun bt385 => ((gambrelref15_Set.f k (⟨#[97, 98, 99]⟩ : ByteArray) bt365.1 bt361.2.1 bt365.2.2).bind fun bt395 => (if bt372.2.2.2.2 = 0 then (if bt385.2.2.2.2 = 0 then (if (bt385.2.2.1.length : Int) = 0 then (if (bt385.2.2.2.1.length : Int) = 0 then (if bt385.1 = true then (gambrellaw22_PlanParity.j0 k t360 bt395.1 (!bt385.2.1) bt361.1 bt361.2.1 bt361.2.2 bt365.1 bt361.2.1 bt365.2.2 bt372.1 bt372.2.1 bt372.2.2.1 bt372.2.2.2.1) else (gambrellaw22_PlanParity.j0 k t360 bt395.1 true bt361.1 bt361.2.1 bt361.2.2 bt365.1 bt361.2.1 bt365.2.2 bt372.1 bt372.2.1 bt372.2.2.1 bt372.2.2.2.1)) else (gambrellaw22_PlanParity.j0 k t360 bt395.1 true bt361.1 bt361.2.1 bt361.2.2 bt365.1 bt361.2.1 bt365.2.2 bt372.1 bt372.2.1 bt372.2.2.1 bt372.2.2.2.1)) else (gambrellaw22_PlanParity.j0 k t360 bt395.1 true bt361.1 bt361.2.1 bt361.2.2 bt365.1 bt361.2.1 bt365.2.2 bt372.1 bt372.2.1 bt372.2.2.1 bt372.2.2.2.1)) else (gambrellaw22_PlanParity.j0 k t360 bt395.1 true bt361.1 bt361.2.1 bt361.2.2 bt365.1 bt361.2.1 bt365.2.2 bt372.1 bt372.2.1 bt372.2.2.1 bt372.2.2.2.1)) else (gambrellaw22_PlanParity.j0 k t360 bt395.1 true bt361.1 bt361.2.1 bt361.2.2 bt365.1 bt361.2.1 bt365.2.2 bt372.1 bt372.2.1 bt372.2.2.1 bt372.2.2.2.1)))))))))) = some r := h
 clear h
 replace H := Option.bind_eq_some_iff.mp H
 obtain ⟨t360, A30, H⟩ := H
 replace H : ((gambrelref09_Some.f a0_0 a0_1 a0_2).bind fun bt361 => ((gambrelref09_Some.f a1_0 a1_1 a1_2).bind fun bt365 => ((gambrellaw22_states.f k bt361.1 bt361.2.1 bt361.2.2 15 0).bind fun t369 => ((plan_Of.f k (⟨#[97, 98, 99]⟩ : ByteArray) bt361.1 bt361.2.1 bt361.2.2 t369 bt365.1 bt361.2.1 bt365.2.2).bind fun bt372 => ((gambrellaw22_states.f k bt361.1 bt361.2.1 bt361.2.2 15 0).bind fun t382 => ((plan_Of.f k (⟨#[97, 98, 99]⟩ : ByteArray) bt361.1 bt361.2.1 bt361.2.2 t382 bt361.1 bt361.2.1 bt361.2.2).bind fun bt385 => ((gambrelref15_Set.f k (⟨#[97, 98, 99]⟩ : ByteArray) bt365.1 bt361.2.1 bt365.2.2).bind fun bt395 => (if bt372.2.2.2.2 = 0 then (if bt385.2.2.2.2 = 0 then (if (bt385.2.2.1.length : Int) = 0 then (if (bt385.2.2.2.1.length : Int) = 0 then (if bt385.1 = true then (gambrellaw22_PlanParity.j0 k t360 bt395.1 (!bt385.2.1) bt361.1 bt361.2.1 bt361.2.2 bt365.1 bt361.2.1 bt365.2.2 bt372.1 bt372.2.1 bt372.2.2.1 bt372.2.2.2.1) else (gambrellaw22_PlanParity.j0 k t360 bt395.1 true bt361.1 bt361.2.1 bt361.2.2 bt365.1 bt361.2.1 bt365.2.2 bt372.1 bt372.2.1 bt372.2.2.1 bt372.2.2.2.1)) else (gambrellaw22_PlanParity.j0 k t360 bt395.1 true bt361.1 bt361.2.1 bt361.2.2 bt365.1 bt361.2.1 bt365.2.2 bt372.1 bt372.2.1 bt372.2.2.1 bt372.2.2.2.1)) else (gambrellaw22_PlanParity.j0 k t360 bt395.1 true bt361.1 bt361.2.1 bt361.2.2 bt365.1 bt361.2.1 bt365.2.2 bt372.1 bt372.2.1 bt372.2.2.1 bt372.2.2.2.1)) else (gambrellaw22_PlanParity.j0 k t360 bt395.1 true bt361.1 bt361.2.1 bt361.2.2 bt365.1 bt361.2.1 bt365.2.2 bt372.1 bt372.2.1 bt372.2.2.1 bt372.2.2.2.1)) else (gambrellaw22_PlanParity.j0 k t360 bt395.1 true bt361.1 bt361.2.1 bt361.2.2 bt365.1 bt361.2.1 bt365.2.2 bt372.1 bt372.2.1 bt372.2.2.1 bt372.2.2.2.1))))))))) = some r := H
 have A3 := Aside0.mk A30
 clear A30
 replace H := Option.bind_eq_some_iff.mp H
 obtain ⟨⟨t361, t362, t363⟩, A40, H⟩ := H
 replace H : ((gambrelref09_Some.f a1_0 a1_1 a1_2).bind fun bt365 => ((gambrellaw22_states.f k t361 t362 t363 15 0).bind fun t369 => ((plan_Of.f k (⟨#[97, 98, 99]⟩ : ByteArray) t361 t362 t363 t369 bt365.1 t362 bt365.2.2).bind fun bt372 => ((gambrellaw22_states.f k t361 t362 t363 15 0).bind fun t382 => ((plan_Of.f k (⟨#[97, 98, 99]⟩ : ByteArray) t361 t362 t363 t382 t361 t362 t363).bind fun bt385 => ((gambrelref15_Set.f k (⟨#[97, 98, 99]⟩ : ByteArray) bt365.1 t362 bt365.2.2).bind fun bt395 => (if bt372.2.2.2.2 = 0 then (if bt385.2.2.2.2 = 0 then (if (bt385.2.2.1.length : Int) = 0 then (if (bt385.2.2.2.1.length : Int) = 0 then (if bt385.1 = true then (gambrellaw22_PlanParity.j0 k t360 bt395.1 (!bt385.2.1) t361 t362 t363 bt365.1 t362 bt365.2.2 bt372.1 bt372.2.1 bt372.2.2.1 bt372.2.2.2.1) else (gambrellaw22_PlanParity.j0 k t360 bt395.1 true t361 t362 t363 bt365.1 t362 bt365.2.2 bt372.1 bt372.2.1 bt372.2.2.1 bt372.2.2.2.1)) else (gambrellaw22_PlanParity.j0 k t360 bt395.1 true t361 t362 t363 bt365.1 t362 bt365.2.2 bt372.1 bt372.2.1 bt372.2.2.1 bt372.2.2.2.1)) else (gambrellaw22_PlanParity.j0 k t360 bt395.1 true t361 t362 t363 bt365.1 t362 bt365.2.2 bt372.1 bt372.2.1 bt372.2.2.1 bt372.2.2.2.1)) else (gambrellaw22_PlanParity.j0 k t360 bt395.1 true t361 t362 t363 bt365.1 t362 bt365.2.2 bt372.1 bt372.2.1 bt372.2.2.1 bt372.2.2.2.1)) else (gambrellaw22_PlanParity.j0 k t360 bt395.1 true t361 t362 t363 bt365.1 t362 bt365.2.2 bt372.1 bt372.2.1 bt372.2.2.1 bt372.2.2.2.1)))))))) = some r := H
 have A4 := Aside0.mk A40
 clear A40
 replace H := Option.bind_eq_some_iff.mp H
 obtain ⟨⟨t365, t366, t367⟩, A50, H⟩ := H
 replace H : ((gambrellaw22_states.f k t361 t362 t363 15 0).bind fun t369 => ((plan_Of.f k (⟨#[97, 98, 99]⟩ : ByteArray) t361 t362 t363 t369 t365 t362 t367).bind fun bt372 => ((gambrellaw22_states.f k t361 t362 t363 15 0).bind fun t382 => ((plan_Of.f k (⟨#[97, 98, 99]⟩ : ByteArray) t361 t362 t363 t382 t361 t362 t363).bind fun bt385 => ((gambrelref15_Set.f k (⟨#[97, 98, 99]⟩ : ByteArray) t365 t362 t367).bind fun bt395 => (if bt372.2.2.2.2 = 0 then (if bt385.2.2.2.2 = 0 then (if (bt385.2.2.1.length : Int) = 0 then (if (bt385.2.2.2.1.length : Int) = 0 then (if bt385.1 = true then (gambrellaw22_PlanParity.j0 k t360 bt395.1 (!bt385.2.1) t361 t362 t363 t365 t362 t367 bt372.1 bt372.2.1 bt372.2.2.1 bt372.2.2.2.1) else (gambrellaw22_PlanParity.j0 k t360 bt395.1 true t361 t362 t363 t365 t362 t367 bt372.1 bt372.2.1 bt372.2.2.1 bt372.2.2.2.1)) else (gambrellaw22_PlanParity.j0 k t360 bt395.1 true t361 t362 t363 t365 t362 t367 bt372.1 bt372.2.1 bt372.2.2.1 bt372.2.2.2.1)) else (gambrellaw22_PlanParity.j0 k t360 bt395.1 true t361 t362 t363 t365 t362 t367 bt372.1 bt372.2.1 bt372.2.2.1 bt372.2.2.2.1)) else (gambrellaw22_PlanParity.j0 k t360 bt395.1 true t361 t362 t363 t365 t362 t367 bt372.1 bt372.2.1 bt372.2.2.1 bt372.2.2.2.1)) else (gambrellaw22_PlanParity.j0 k t360 bt395.1 true t361 t362 t363 t365 t362 t367 bt372.1 bt372.2.1 bt372.2.2.1 bt372.2.2.2.1))))))) = some r := H
 have A5 := Aside0.mk A50
 clear A50
 replace H := Option.bind_eq_some_iff.mp H
 obtain ⟨t369, A60, H⟩ := H
 replace H : ((plan_Of.f k (⟨#[97, 98, 99]⟩ : ByteArray) t361 t362 t363 t369 t365 t362 t367).bind fun bt372 => ((gambrellaw22_states.f k t361 t362 t363 15 0).bind fun t382 => ((plan_Of.f k (⟨#[97, 98, 99]⟩ : ByteArray) t361 t362 t363 t382 t361 t362 t363).bind fun bt385 => ((gambrelref15_Set.f k (⟨#[97, 98, 99]⟩ : ByteArray) t365 t362 t367).bind fun bt395 => (if bt372.2.2.2.2 = 0 then (if bt385.2.2.2.2 = 0 then (if (bt385.2.2.1.length : Int) = 0 then (if (bt385.2.2.2.1.length : Int) = 0 then (if bt385.1 = true then (gambrellaw22_PlanParity.j0 k t360 bt395.1 (!bt385.2.1) t361 t362 t363 t365 t362 t367 bt372.1 bt372.2.1 bt372.2.2.1 bt372.2.2.2.1) else (gambrellaw22_PlanParity.j0 k t360 bt395.1 true t361 t362 t363 t365 t362 t367 bt372.1 bt372.2.1 bt372.2.2.1 bt372.2.2.2.1)) else (gambrellaw22_PlanParity.j0 k t360 bt395.1 true t361 t362 t363 t365 t362 t367 bt372.1 bt372.2.1 bt372.2.2.1 bt372.2.2.2.1)) else (gambrellaw22_PlanParity.j0 k t360 bt395.1 true t361 t362 t363 t365 t362 t367 bt372.1 bt372.2.1 bt372.2.2.1 bt372.2.2.2.1)) else (gambrellaw22_PlanParity.j0 k t360 bt395.1 true t361 t362 t363 t365 t362 t367 bt372.1 bt372.2.1 bt372.2.2.1 bt372.2.2.2.1)) else (gambrellaw22_PlanParity.j0 k t360 bt395.1 true t361 t362 t363 t365 t362 t367 bt372.1 bt372.2.1 bt372.2.2.1 bt372.2.2.2.1)))))) = some r := H
 have A6 := Aside0.mk A60
 clear A60
 replace H := Option.bind_eq_some_iff.mp H
 obtain ⟨⟨t372, t373, t374, t377, t380⟩, A70, H⟩ := H
 replace H : ((gambrellaw22_states.f k t361 t362 t363 15 0).bind fun t382 => ((plan_Of.f k (⟨#[97, 98, 99]⟩ : ByteArray) t361 t362 t363 t382 t361 t362 t363).bind fun bt385 => ((gambrelref15_Set.f k (⟨#[97, 98, 99]⟩ : ByteArray) t365 t362 t367).bind fun bt395 => (if t380 = 0 then (if bt385.2.2.2.2 = 0 then (if (bt385.2.2.1.length : Int) = 0 then (if (bt385.2.2.2.1.length : Int) = 0 then (if bt385.1 = true then (gambrellaw22_PlanParity.j0 k t360 bt395.1 (!bt385.2.1) t361 t362 t363 t365 t362 t367 t372 t373 t374 t377) else (gambrellaw22_PlanParity.j0 k t360 bt395.1 true t361 t362 t363 t365 t362 t367 t372 t373 t374 t377)) else (gambrellaw22_PlanParity.j0 k t360 bt395.1 true t361 t362 t363 t365 t362 t367 t372 t373 t374 t377)) else (gambrellaw22_PlanParity.j0 k t360 bt395.1 true t361 t362 t363 t365 t362 t367 t372 t373 t374 t377)) else (gambrellaw22_PlanParity.j0 k t360 bt395.1 true t361 t362 t363 t365 t362 t367 t372 t373 t374 t377)) else (gambrellaw22_PlanParity.j0 k t360 bt395.1 true t361 t362 t363 t365 t362 t367 t372 t373 t374 t377))))) = some r := H
 have A7 := Aside0.mk A70
 clear A70
 replace H := Option.bind_eq_some_iff.mp H
 obtain ⟨t382, A80, H⟩ := H
 replace H : ((plan_Of.f k (⟨#[97, 98, 99]⟩ : ByteArray) t361 t362 t363 t382 t361 t362 t363).bind fun bt385 => ((gambrelref15_Set.f k (⟨#[97, 98, 99]⟩ : ByteArray) t365 t362 t367).bind fun bt395 => (if t380 = 0 then (if bt385.2.2.2.2 = 0 then (if (bt385.2.2.1.length : Int) = 0 then (if (bt385.2.2.2.1.length : Int) = 0 then (if bt385.1 = true then (gambrellaw22_PlanParity.j0 k t360 bt395.1 (!bt385.2.1) t361 t362 t363 t365 t362 t367 t372 t373 t374 t377) else (gambrellaw22_PlanParity.j0 k t360 bt395.1 true t361 t362 t363 t365 t362 t367 t372 t373 t374 t377)) else (gambrellaw22_PlanParity.j0 k t360 bt395.1 true t361 t362 t363 t365 t362 t367 t372 t373 t374 t377)) else (gambrellaw22_PlanParity.j0 k t360 bt395.1 true t361 t362 t363 t365 t362 t367 t372 t373 t374 t377)) else (gambrellaw22_PlanParity.j0 k t360 bt395.1 true t361 t362 t363 t365 t362 t367 t372 t373 t374 t377)) else (gambrellaw22_PlanParity.j0 k t360 bt395.1 true t361 t362 t363 t365 t362 t367 t372 t373 t374 t377)))) = some r := H
 have A8 := Aside0.mk A80
 clear A80
 replace H := Option.bind_eq_some_iff.mp H
 obtain ⟨⟨t385, t386, t387, t390, t393⟩, A90, H⟩ := H
 replace H : ((gambrelref15_Set.f k (⟨#[97, 98, 99]⟩ : ByteArray) t365 t362 t367).bind fun bt395 => (if t380 = 0 then (if t393 = 0 then (if (t387.length : Int) = 0 then (if (t390.length : Int) = 0 then (if t385 = true then (gambrellaw22_PlanParity.j0 k t360 bt395.1 (!t386) t361 t362 t363 t365 t362 t367 t372 t373 t374 t377) else (gambrellaw22_PlanParity.j0 k t360 bt395.1 true t361 t362 t363 t365 t362 t367 t372 t373 t374 t377)) else (gambrellaw22_PlanParity.j0 k t360 bt395.1 true t361 t362 t363 t365 t362 t367 t372 t373 t374 t377)) else (gambrellaw22_PlanParity.j0 k t360 bt395.1 true t361 t362 t363 t365 t362 t367 t372 t373 t374 t377)) else (gambrellaw22_PlanParity.j0 k t360 bt395.1 true t361 t362 t363 t365 t362 t367 t372 t373 t374 t377)) else (gambrellaw22_PlanParity.j0 k t360 bt395.1 true t361 t362 t363 t365 t362 t367 t372 t373 t374 t377))) = some r := H
 have A9 := Aside0.mk A90
 clear A90
 replace H := Option.bind_eq_some_iff.mp H
 obtain ⟨⟨t395, t398⟩, A100, H⟩ := H
 replace H : (if t380 = 0 then (if t393 = 0 then (if (t387.length : Int) = 0 then (if (t390.length : Int) = 0 then (if t385 = true then (gambrellaw22_PlanParity.j0 k t360 t395 (!t386) t361 t362 t363 t365 t362 t367 t372 t373 t374 t377) else (gambrellaw22_PlanParity.j0 k t360 t395 true t361 t362 t363 t365 t362 t367 t372 t373 t374 t377)) else (gambrellaw22_PlanParity.j0 k t360 t395 true t361 t362 t363 t365 t362 t367 t372 t373 t374 t377)) else (gambrellaw22_PlanParity.j0 k t360 t395 true t361 t362 t363 t365 t362 t367 t372 t373 t374 t377)) else (gambrellaw22_PlanParity.j0 k t360 t395 true t361 t362 t363 t365 t362 t367 t372 t373 t374 t377)) else (gambrellaw22_PlanParity.j0 k t360 t395 true t361 t362 t363 t365 t362 t367 t372 t373 t374 t377)) = some r := H
 have A10 := Aside0.mk A100
 clear A100
 have HC11 := Aside0.mk H
 clear H
 go_enter Tryd.func5, Tryd.ntmps5
 try go_wp2_with (first | ((with_reducible refine gate_dst (N := 2) rfl ?_); (try (refine gate_guard (by rfl) ?_; dsimp only)); refine box_event ?hg (N := 2) ?hd (cs := #[.int .u8 a0_0, .int .u8 a0_1, .int .u8 a0_2]) (t := 39) ?hr ?_; (case hd => rfl); (case hg => rfl); (case hr => first | (go_simp; done) | (go_simp; rfl)); intro gb358 hg w12 hbox hb; have n0_ := Aside0.mk (below_step (by repeat (first | (with_reducible first | exact HB.out | apply below_alloc | apply pw_below_drewN | apply below_drew1) | exact HB.out)) hb); have n1_ := Aside0.mk (hbox); have n2_ := Aside0.mk ((by rw [hg]; exact (below_size (by repeat (first | (with_reducible first | exact HB.out | apply below_alloc | apply pw_below_drewN | apply below_drew1) | exact HB.out))) : w.heap.size ≤ gb358)); have n3_ := Aside0.mk ((by rw [hg]; exact (below_size (by repeat (first | (with_reducible first | exact HB.out | apply below_alloc | apply pw_below_drewN | apply below_drew1) | exact HB.out))) : w.heap.size ≤ gb358)); clear HB; have HB := n0_; have BK358 := n1_; have GW358 := n2_; have GE358 := n3_; clear n0_ n1_ n2_ n3_; clear hb hbox hg) | ((with_reducible refine gate_dst (N := 3) rfl ?_); (try (refine gate_guard (by rfl) ?_; dsimp only)); refine box_event ?hg (N := 3) ?hd (cs := #[.int .u8 a1_0, .int .u8 a1_1, .int .u8 a1_2]) (t := 39) ?hr ?_; (case hd => rfl); (case hg => rfl); (case hr => first | (go_simp; done) | (go_simp; rfl)); intro gb359 hg w13 hbox hb; have n0_ := Aside0.mk (blk_below (g := gb358) (o := .cells #[.int .u8 a0_0, .int .u8 a0_1, .int .u8 a0_2] 39 (0, 0)) (by (with_reducible repeat (first | refine blk_drewN ?_ _ | refine blk_drew ?_ | refine blk_alloc ?_ _)); exact BK358.out) hb); have n1_ := Aside0.mk (below_step (by repeat (first | (with_reducible first | exact HB.out | apply below_alloc | apply pw_below_drewN | apply below_drew1 | refine below_set ?_ GE358.out) | exact HB.out)) hb); have n2_ := Aside0.mk (hbox); have n3_ := Aside0.mk ((by rw [hg]; exact (below_size (by repeat (first | (with_reducible first | exact HB.out | apply below_alloc | apply pw_below_drewN | apply below_drew1 | refine below_set ?_ GE358.out) | exact HB.out))) : w.heap.size ≤ gb359)); have n4_ := Aside0.mk ((by rw [hg]; exact (below_size (by repeat (first | (with_reducible first | exact HB.out | apply below_alloc | apply pw_below_drewN | apply below_drew1 | refine below_set ?_ GE358.out) | exact HB.out))) : w.heap.size ≤ gb359)); have n5_ := Aside0.mk ((by rw [hg]; exact Nat.ne_of_lt (blk_lt (g := gb358) (o := .cells #[.int .u8 a0_0, .int .u8 a0_1, .int .u8 a0_2] 39 (0, 0)) (by (with_reducible repeat (first | refine blk_drewN ?_ _ | refine blk_drew ?_ | refine blk_alloc ?_ _)); exact BK358.out)) : gb358 ≠ gb359)); have n6_ := Aside0.mk ((by rw [hg]; exact Nat.ne_of_gt (blk_lt (g := gb358) (o := .cells #[.int .u8 a0_0, .int .u8 a0_1, .int .u8 a0_2] 39 (0, 0)) (by (with_reducible repeat (first | refine blk_drewN ?_ _ | refine blk_drew ?_ | refine blk_alloc ?_ _)); exact BK358.out)) : gb359 ≠ gb358)); clear BK358; clear HB; have BK358 := n0_; have HB := n1_; have BK359 := n2_; have GW359 := n3_; have GE359 := n4_; have NB358_359 := n5_; have NB359_358 := n6_; clear n0_ n1_ n2_ n3_ n4_ n5_ n6_; clear hb hbox hg) | ((with_reducible refine gate_callee (f := 7) rfl ?_); refine goesL_ (some 14) rfl rfl Tryd.func7 (by kernel_rfl) rfl #[] rfl (by (try simp only [List.map_toArray, List.map_cons, List.map_nil]); first | done | rfl | (simp only [List.length_drop, List.length_take]; rfl)) ?_; (with_reducible refine (gambrellaw22_awake.calls k  t360 _ A3.out).mono ?_); rintro e w14 ⟨rfl, hb⟩; refine ⟨_, rfl, ?_⟩; have n0_ := Aside0.mk (blk_below (g := gb358) (o := .cells #[.int .u8 a0_0, .int .u8 a0_1, .int .u8 a0_2] 39 (0, 0)) (by (with_reducible repeat (first | refine blk_drewN ?_ _ | refine blk_drew ?_ | refine blk_alloc ?_ _)); exact BK358.out) hb); have n1_ := Aside0.mk (blk_below (g := gb359) (o := .cells #[.int .u8 a1_0, .int .u8 a1_1, .int .u8 a1_2] 39 (0, 0)) (by (with_reducible repeat (first | refine blk_drewN ?_ _ | refine blk_drew ?_ | refine blk_alloc ?_ _)); exact BK359.out) hb); have n2_ := Aside0.mk (below_step (by repeat (first | (with_reducible first | exact HB.out | apply below_alloc | apply pw_below_drewN | apply below_drew1 | refine below_set ?_ GE358.out | refine below_set ?_ GE359.out) | exact HB.out)) hb); clear BK358; clear BK359; clear HB; have BK358 := n0_; have BK359 := n1_; have HB := n2_; clear n0_ n1_ n2_; (try clear hb); (try clear hb2); (try clear hk); (try clear hi); have hnb15 := NB358_359.out; have hnc15 := NB359_358.out; have hcz16_0 : w14.cell? ⟨gb358, 0, none⟩ = some (.int .u8 a0_0) := (blk_cell BK358.out 0).trans rfl; have hcz16_1 : w14.cell? ⟨gb358, 1, none⟩ = some (.int .u8 a0_1) := (blk_cell BK358.out 1).trans rfl; have hcz16_2 : w14.cell? ⟨gb358, 2, none⟩ = some (.int .u8 a0_2) := (blk_cell BK358.out 2).trans rfl; have hfz16_0 := blk_frozen BK358.out 0; have hfz16_1 := blk_frozen BK358.out 1; have hfz16_2 := blk_frozen BK358.out 2) | ((with_reducible refine gate_callee (f := 11) rfl ?_); refine goesL_ (some 16) rfl rfl Tryd.func11 (by kernel_rfl) rfl #[.agg #[.int .u8 a0_0, .int .u8 a0_1, .int .u8 a0_2]] rfl (by (try simp only [List.map_toArray, List.map_cons, List.map_nil]); first | done | rfl | (simp only [List.length_drop, List.length_take]; rfl)) ?_; (with_reducible refine (gambrelref09_Some.calls a0_0 a0_1 a0_2 t361 t362 t363 _ A4.out).mono ?_); rintro e w17 ⟨rfl, hb⟩; refine ⟨_, rfl, ?_⟩; have n0_ := Aside0.mk (blk_below (g := gb358) (o := .cells #[.int .u8 a0_0, .int .u8 a0_1, .int .u8 a0_2] 39 (0, 0)) (by (with_reducible repeat (first | refine blk_drewN ?_ _ | refine blk_drew ?_ | refine blk_alloc ?_ _)); exact BK358.out) hb); have n1_ := Aside0.mk (blk_below (g := gb359) (o := .cells #[.int .u8 a1_0, .int .u8 a1_1, .int .u8 a1_2] 39 (0, 0)) (by (with_reducible repeat (first | refine blk_drewN ?_ _ | refine blk_drew ?_ | refine blk_alloc ?_ _)); exact BK359.out) hb); have n2_ := Aside0.mk (below_step (by repeat (first | (with_reducible first | exact HB.out | apply below_alloc | apply pw_below_drewN | apply below_drew1 | refine below_set ?_ GE358.out | refine below_set ?_ GE359.out) | exact HB.out)) hb); clear BK358; clear BK359; clear HB; have BK358 := n0_; have BK359 := n1_; have HB := n2_; clear n0_ n1_ n2_; (try clear hb); (try clear hb2); (try clear hk); (try clear hi)) | ((with_reducible refine gate_dst (N := 6) rfl ?_); (try (refine gate_guard (by rfl) ?_; dsimp only)); refine box_event ?hg (N := 6) ?hd (cs := #[.int .i64 0, .int .i64 0, .int .i64 0]) (t := 23) ?hr ?_; (case hd => rfl); (case hg => rfl); (case hr => first | (go_simp; done) | (go_simp; rfl)); intro gb364 hg w18 hbox hb; have n0_ := Aside0.mk (blk_below (g := gb358) (o := .cells #[.int .u8 a0_0, .int .u8 a0_1, .int .u8 a0_2] 39 (0, 0)) (by (with_reducible repeat (first | refine blk_drewN ?_ _ | refine blk_drew ?_ | refine blk_alloc ?_ _)); exact BK358.out) hb); have n1_ := Aside0.mk (blk_below (g := gb359) (o := .cells #[.int .u8 a1_0, .int .u8 a1_1, .int .u8 a1_2] 39 (0, 0)) (by (with_reducible repeat (first | refine blk_drewN ?_ _ | refine blk_drew ?_ | refine blk_alloc ?_ _)); exact BK359.out) hb); have n2_ := Aside0.mk (below_step (by repeat (first | (with_reducible first | exact HB.out | apply below_alloc | apply pw_below_drewN | apply below_drew1 | refine below_set ?_ GE358.out | refine below_set ?_ GE359.out) | exact HB.out)) hb); have n3_ := Aside0.mk (hbox); have n4_ := Aside0.mk ((by rw [hg]; exact (below_size (by repeat (first | (with_reducible first | exact HB.out | apply below_alloc | apply pw_below_drewN | apply below_drew1 | refine below_set ?_ GE358.out | refine below_set ?_ GE359.out) | exact HB.out))) : w.heap.size ≤ gb364)); have n5_ := Aside0.mk ((by rw [hg]; exact (below_size (by repeat (first | (with_reducible first | exact HB.out | apply below_alloc | apply pw_below_drewN | apply below_drew1 | refine below_set ?_ GE358.out | refine below_set ?_ GE359.out) | exact HB.out))) : w.heap.size ≤ gb364)); have n6_ := Aside0.mk ((by rw [hg]; exact Nat.ne_of_lt (blk_lt (g := gb358) (o := .cells #[.int .u8 a0_0, .int .u8 a0_1, .int .u8 a0_2] 39 (0, 0)) (by (with_reducible repeat (first | refine blk_drewN ?_ _ | refine blk_drew ?_ | refine blk_alloc ?_ _)); exact BK358.out)) : gb358 ≠ gb364)); have n7_ := Aside0.mk ((by rw [hg]; exact Nat.ne_of_gt (blk_lt (g := gb358) (o := .cells #[.int .u8 a0_0, .int .u8 a0_1, .int .u8 a0_2] 39 (0, 0)) (by (with_reducible repeat (first | refine blk_drewN ?_ _ | refine blk_drew ?_ | refine blk_alloc ?_ _)); exact BK358.out)) : gb364 ≠ gb358)); have n8_ := Aside0.mk ((by rw [hg]; exact Nat.ne_of_lt (blk_lt (g := gb359) (o := .cells #[.int .u8 a1_0, .int .u8 a1_1, .int .u8 a1_2] 39 (0, 0)) (by (with_reducible repeat (first | refine blk_drewN ?_ _ | refine blk_drew ?_ | refine blk_alloc ?_ _)); exact BK359.out)) : gb359 ≠ gb364)); have n9_ := Aside0.mk ((by rw [hg]; exact Nat.ne_of_gt (blk_lt (g := gb359) (o := .cells #[.int .u8 a1_0, .int .u8 a1_1, .int .u8 a1_2] 39 (0, 0)) (by (with_reducible repeat (first | refine blk_drewN ?_ _ | refine blk_drew ?_ | refine blk_alloc ?_ _)); exact BK359.out)) : gb364 ≠ gb359)); clear BK358; clear BK359; clear HB; have BK358 := n0_; have BK359 := n1_; have HB := n2_; have BK364 := n3_; have GW364 := n4_; have GE364 := n5_; have NB358_364 := n6_; have NB364_358 := n7_; have NB359_364 := n8_; have NB364_359 := n9_; clear n0_ n1_ n2_ n3_ n4_ n5_ n6_ n7_ n8_ n9_; clear hb hbox hg; have hnb19 := NB364_358.out; have hnc19 := NB358_364.out; have hnb20 := NB364_359.out; have hnc20 := NB359_364.out; have hcz21_0 : w18.cell? ⟨gb364, 0, none⟩ = some (.int .i64 0) := (blk_cell BK364.out 0).trans rfl; have hcz21_1 : w18.cell? ⟨gb364, 1, none⟩ = some (.int .i64 0) := (blk_cell BK364.out 1).trans rfl; have hcz21_2 : w18.cell? ⟨gb364, 2, none⟩ = some (.int .i64 0) := (blk_cell BK364.out 2).trans rfl; have hfz21_0 := blk_frozen BK364.out 0; have hfz21_1 := blk_frozen BK364.out 1; have hfz21_2 := blk_frozen BK364.out 2; have hcz22_0 : w18.cell? ⟨gb359, 0, none⟩ = some (.int .u8 a1_0) := (blk_cell BK359.out 0).trans rfl; have hcz22_1 : w18.cell? ⟨gb359, 1, none⟩ = some (.int .u8 a1_1) := (blk_cell BK359.out 1).trans rfl; have hcz22_2 : w18.cell? ⟨gb359, 2, none⟩ = some (.int .u8 a1_2) := (blk_cell BK359.out 2).trans rfl; have hfz22_0 := blk_frozen BK359.out 0; have hfz22_1 := blk_frozen BK359.out 1; have hfz22_2 := blk_frozen BK359.out 2) | ((with_reducible refine gate_callee (f := 11) rfl ?_); refine goesL_ (some 18) rfl rfl Tryd.func11 (by kernel_rfl) rfl #[.agg #[.int .u8 a1_0, .int .u8 a1_1, .int .u8 a1_2]] rfl (by (try simp only [List.map_toArray, List.map_cons, List.map_nil]); first | done | rfl | (simp only [List.length_drop, List.length_take]; rfl)) ?_; (with_reducible refine (gambrelref09_Some.calls a1_0 a1_1 a1_2 t365 t366 t367 _ A5.out).mono ?_); rintro e w23 ⟨rfl, hb⟩; refine ⟨_, rfl, ?_⟩; have n0_ := Aside0.mk (blk_below (g := gb358) (o := .cells #[.int .u8 a0_0, .int .u8 a0_1, .int .u8 a0_2] 39 (0, 0)) (by (with_reducible repeat (first | refine blk_drewN ?_ _ | refine blk_drew ?_ | refine blk_alloc ?_ _)); refine blk_far ?_ NB358_364.out _; (with_reducible repeat (first | refine blk_drewN ?_ _ | refine blk_drew ?_ | refine blk_alloc ?_ _)); refine blk_far ?_ NB358_364.out _; (with_reducible repeat (first | refine blk_drewN ?_ _ | refine blk_drew ?_ | refine blk_alloc ?_ _)); refine blk_far ?_ NB358_364.out _; (with_reducible repeat (first | refine blk_drewN ?_ _ | refine blk_drew ?_ | refine blk_alloc ?_ _)); exact BK358.out) hb); have n1_ := Aside0.mk (blk_below (g := gb359) (o := .cells #[.int .u8 a1_0, .int .u8 a1_1, .int .u8 a1_2] 39 (0, 0)) (by (with_reducible repeat (first | refine blk_drewN ?_ _ | refine blk_drew ?_ | refine blk_alloc ?_ _)); refine blk_far ?_ NB359_364.out _; (with_reducible repeat (first | refine blk_drewN ?_ _ | refine blk_drew ?_ | refine blk_alloc ?_ _)); refine blk_far ?_ NB359_364.out _; (with_reducible repeat (first | refine blk_drewN ?_ _ | refine blk_drew ?_ | refine blk_alloc ?_ _)); refine blk_far ?_ NB359_364.out _; (with_reducible repeat (first | refine blk_drewN ?_ _ | refine blk_drew ?_ | refine blk_alloc ?_ _)); exact BK359.out) hb); have n2_ := Aside0.mk (blk_below (g := gb364) (o := .cells #[.int .i64 t361, .int .i64 t362, .int .i64 t363] 23 (0, 0)) (by (with_reducible repeat (first | refine blk_drewN ?_ _ | refine blk_drew ?_ | refine blk_alloc ?_ _)); refine blk_put (cs := #[.int .i64 t361, .int .i64 t362, .int .i64 0]) ?_ 2 _ rfl; (with_reducible repeat (first | refine blk_drewN ?_ _ | refine blk_drew ?_ | refine blk_alloc ?_ _)); refine blk_put (cs := #[.int .i64 t361, .int .i64 0, .int .i64 0]) ?_ 1 _ rfl; (with_reducible repeat (first | refine blk_drewN ?_ _ | refine blk_drew ?_ | refine blk_alloc ?_ _)); refine blk_put (cs := #[.int .i64 0, .int .i64 0, .int .i64 0]) ?_ 0 _ rfl; (with_reducible repeat (first | refine blk_drewN ?_ _ | refine blk_drew ?_ | refine blk_alloc ?_ _)); exact BK364.out) hb); have n3_ := Aside0.mk (below_step (by repeat (first | (with_reducible first | exact HB.out | apply below_alloc | apply pw_below_drewN | apply below_drew1 | refine below_set ?_ GE358.out | refine below_set ?_ GE359.out | refine below_set ?_ GE364.out) | exact HB.out)) hb); clear BK358; clear BK359; clear BK364; clear HB; have BK358 := n0_; have BK359 := n1_; have BK364 := n2_; have HB := n3_; clear n0_ n1_ n2_ n3_; (try clear hb); (try clear hb2); (try clear hk); (try clear hi)) | ((with_reducible refine gate_dst (N := 7) rfl ?_); (try (refine gate_guard (by rfl) ?_; dsimp only)); refine box_event ?hg (N := 7) ?hd (cs := #[.int .i64 0, .int .i64 0, .int .i64 0]) (t := 23) ?hr ?_; (case hd => rfl); (case hg => rfl); (case hr => first | (go_simp; done) | (go_simp; rfl)); intro gb368 hg w24 hbox hb; have n0_ := Aside0.mk (blk_below (g := gb358) (o := .cells #[.int .u8 a0_0, .int .u8 a0_1, .int .u8 a0_2] 39 (0, 0)) (by (with_reducible repeat (first | refine blk_drewN ?_ _ | refine blk_drew ?_ | refine blk_alloc ?_ _)); exact BK358.out) hb); have n1_ := Aside0.mk (blk_below (g := gb359) (o := .cells #[.int .u8 a1_0, .int .u8 a1_1, .int .u8 a1_2] 39 (0, 0)) (by (with_reducible repeat (first | refine blk_drewN ?_ _ | refine blk_drew ?_ | refine blk_alloc ?_ _)); exact BK359.out) hb); have n2_ := Aside0.mk (blk_below (g := gb364) (o := .cells #[.int .i64 t361, .int .i64 t362, .int .i64 t363] 23 (0, 0)) (by (with_reducible repeat (first | refine blk_drewN ?_ _ | refine blk_drew ?_ | refine blk_alloc ?_ _)); exact BK364.out) hb); have n3_ := Aside0.mk (below_step (by repeat (first | (with_reducible first | exact HB.out | apply below_alloc | apply pw_below_drewN | apply below_drew1 | refine below_set ?_ GE358.out | refine below_set ?_ GE359.out | refine below_set ?_ GE364.out) | exact HB.out)) hb); have n4_ := Aside0.mk (hbox); have n5_ := Aside0.mk ((by rw [hg]; exact (below_size (by repeat (first | (with_reducible first | exact HB.out | apply below_alloc | apply pw_below_drewN | apply below_drew1 | refine below_set ?_ GE358.out | refine below_set ?_ GE359.out | refine below_set ?_ GE364.out) | exact HB.out))) : w.heap.size ≤ gb368)); have n6_ := Aside0.mk ((by rw [hg]; exact (below_size (by repeat (first | (with_reducible first | exact HB.out | apply below_alloc | apply pw_below_drewN | apply below_drew1 | refine below_set ?_ GE358.out | refine below_set ?_ GE359.out | refine below_set ?_ GE364.out) | exact HB.out))) : w.heap.size ≤ gb368)); have n7_ := Aside0.mk ((by rw [hg]; exact Nat.ne_of_lt (blk_lt (g := gb358) (o := .cells #[.int .u8 a0_0, .int .u8 a0_1, .int .u8 a0_2] 39 (0, 0)) (by (with_reducible repeat (first | refine blk_drewN ?_ _ | refine blk_drew ?_ | refine blk_alloc ?_ _)); exact BK358.out)) : gb358 ≠ gb368)); have n8_ := Aside0.mk ((by rw [hg]; exact Nat.ne_of_gt (blk_lt (g := gb358) (o := .cells #[.int .u8 a0_0, .int .u8 a0_1, .int .u8 a0_2] 39 (0, 0)) (by (with_reducible repeat (first | refine blk_drewN ?_ _ | refine blk_drew ?_ | refine blk_alloc ?_ _)); exact BK358.out)) : gb368 ≠ gb358)); have n9_ := Aside0.mk ((by rw [hg]; exact Nat.ne_of_lt (blk_lt (g := gb359) (o := .cells #[.int .u8 a1_0, .int .u8 a1_1, .int .u8 a1_2] 39 (0, 0)) (by (with_reducible repeat (first | refine blk_drewN ?_ _ | refine blk_drew ?_ | refine blk_alloc ?_ _)); exact BK359.out)) : gb359 ≠ gb368)); have n10_ := Aside0.mk ((by rw [hg]; exact Nat.ne_of_gt (blk_lt (g := gb359) (o := .cells #[.int .u8 a1_0, .int .u8 a1_1, .int .u8 a1_2] 39 (0, 0)) (by (with_reducible repeat (first | refine blk_drewN ?_ _ | refine blk_drew ?_ | refine blk_alloc ?_ _)); exact BK359.out)) : gb368 ≠ gb359)); have n11_ := Aside0.mk ((by rw [hg]; exact Nat.ne_of_lt (blk_lt (g := gb364) (o := .cells #[.int .i64 t361, .int .i64 t362, .int .i64 t363] 23 (0, 0)) (by (with_reducible repeat (first | refine blk_drewN ?_ _ | refine blk_drew ?_ | refine blk_alloc ?_ _)); exact BK364.out)) : gb364 ≠ gb368)); have n12_ := Aside0.mk ((by rw [hg]; exact Nat.ne_of_gt (blk_lt (g := gb364) (o := .cells #[.int .i64 t361, .int .i64 t362, .int .i64 t363] 23 (0, 0)) (by (with_reducible repeat (first | refine blk_drewN ?_ _ | refine blk_drew ?_ | refine blk_alloc ?_ _)); exact BK364.out)) : gb368 ≠ gb364)); clear BK358; clear BK359; clear BK364; clear HB; have BK358 := n0_; have BK359 := n1_; have BK364 := n2_; have HB := n3_; have BK368 := n4_; have GW368 := n5_; have GE368 := n6_; have NB358_368 := n7_; have NB368_358 := n8_; have NB359_368 := n9_; have NB368_359 := n10_; have NB364_368 := n11_; have NB368_364 := n12_; clear n0_ n1_ n2_ n3_ n4_ n5_ n6_ n7_ n8_ n9_ n10_ n11_ n12_; clear hb hbox hg; have hnb25 := NB368_358.out; have hnc25 := NB358_368.out; have hnb26 := NB368_359.out; have hnc26 := NB359_368.out; have hnb27 := NB368_364.out; have hnc27 := NB364_368.out; have hcz28_0 : w24.cell? ⟨gb368, 0, none⟩ = some (.int .i64 0) := (blk_cell BK368.out 0).trans rfl; have hcz28_1 : w24.cell? ⟨gb368, 1, none⟩ = some (.int .i64 0) := (blk_cell BK368.out 1).trans rfl; have hcz28_2 : w24.cell? ⟨gb368, 2, none⟩ = some (.int .i64 0) := (blk_cell BK368.out 2).trans rfl; have hfz28_0 := blk_frozen BK368.out 0; have hfz28_1 := blk_frozen BK368.out 1; have hfz28_2 := blk_frozen BK368.out 2; have hcz29_0 : w24.cell? ⟨gb364, 0, none⟩ = some (.int .i64 t361) := (blk_cell BK364.out 0).trans rfl; have hcz29_1 : w24.cell? ⟨gb364, 1, none⟩ = some (.int .i64 t362) := (blk_cell BK364.out 1).trans rfl; have hcz29_2 : w24.cell? ⟨gb364, 2, none⟩ = some (.int .i64 t363) := (blk_cell BK364.out 2).trans rfl; have hfz29_0 := blk_frozen BK364.out 0; have hfz29_1 := blk_frozen BK364.out 1; have hfz29_2 := blk_frozen BK364.out 2))
 have n0_ : Aside0 (((((w24.setCell ⟨gb368, 0, none⟩ (.int .i64 t365)).setCell ⟨gb368, 1, none⟩ (.int .i64 t366)).setCell ⟨gb368, 2, none⟩ (.int .i64 t367)).setCell ⟨gb368, 1, none⟩ (.int .i64 t362)).heap[gb358]? = some (.cells #[.int .u8 a0_0, .int .u8 a0_1, .int .u8 a0_2] 39 (0, 0))) := ⟨by (with_reducible repeat (first | refine blk_drewN ?_ _ | refine blk_drew ?_ | refine blk_alloc ?_ _)); refine blk_far ?_ NB358_368.out _; (with_reducible repeat (first | refine blk_drewN ?_ _ | refine blk_drew ?_ | refine blk_alloc ?_ _)); refine blk_far ?_ NB358_368.out _; (with_reducible repeat (first | refine blk_drewN ?_ _ | refine blk_drew ?_ | refine blk_alloc ?_ _)); refine blk_far ?_ NB358_368.out _; (with_reducible repeat (first | refine blk_drewN ?_ _ | refine blk_drew ?_ | refine blk_alloc ?_ _)); refine blk_far ?_ NB358_368.out _; (with_reducible repeat (first | refine blk_drewN ?_ _ | refine blk_drew ?_ | refine blk_alloc ?_ _)); exact BK358.out⟩
 have n1_ : Aside0 (((((w24.setCell ⟨gb368, 0, none⟩ (.int .i64 t365)).setCell ⟨gb368, 1, none⟩ (.int .i64 t366)).setCell ⟨gb368, 2, none⟩ (.int .i64 t367)).setCell ⟨gb368, 1, none⟩ (.int .i64 t362)).heap[gb359]? = some (.cells #[.int .u8 a1_0, .int .u8 a1_1, .int .u8 a1_2] 39 (0, 0))) := ⟨by (with_reducible repeat (first | refine blk_drewN ?_ _ | refine blk_drew ?_ | refine blk_alloc ?_ _)); refine blk_far ?_ NB359_368.out _; (with_reducible repeat (first | refine blk_drewN ?_ _ | refine blk_drew ?_ | refine blk_alloc ?_ _)); refine blk_far ?_ NB359_368.out _; (with_reducible repeat (first | refine blk_drewN ?_ _ | refine blk_drew ?_ | refine blk_alloc ?_ _)); refine blk_far ?_ NB359_368.out _; (with_reducible repeat (first | refine blk_drewN ?_ _ | refine blk_drew ?_ | refine blk_alloc ?_ _)); refine blk_far ?_ NB359_368.out _; (with_reducible repeat (first | refine blk_drewN ?_ _ | refine blk_drew ?_ | refine blk_alloc ?_ _)); exact BK359.out⟩
 have n2_ : Aside0 (((((w24.setCell ⟨gb368, 0, none⟩ (.int .i64 t365)).setCell ⟨gb368, 1, none⟩ (.int .i64 t366)).setCell ⟨gb368, 2, none⟩ (.int .i64 t367)).setCell ⟨gb368, 1, none⟩ (.int .i64 t362)).heap[gb364]? = some (.cells #[.int .i64 t361, .int .i64 t362, .int .i64 t363] 23 (0, 0))) := ⟨by (with_reducible repeat (first | refine blk_drewN ?_ _ | refine blk_drew ?_ | refine blk_alloc ?_ _)); refine blk_far ?_ NB364_368.out _; (with_reducible repeat (first | refine blk_drewN ?_ _ | refine blk_drew ?_ | refine blk_alloc ?_ _)); refine blk_far ?_ NB364_368.out _; (with_reducible repeat (first | refine blk_drewN ?_ _ | refine blk_drew ?_ | refine blk_alloc ?_ _)); refine blk_far ?_ NB364_368.out _; (with_reducible repeat (first | refine blk_drewN ?_ _ | refine blk_drew ?_ | refine blk_alloc ?_ _)); refine blk_far ?_ NB364_368.out _; (with_reducible repeat (first | refine blk_drewN ?_ _ | refine blk_drew ?_ | refine blk_alloc ?_ _)); exact BK364.out⟩
 have n3_ : Aside0 (((((w24.setCell ⟨gb368, 0, none⟩ (.int .i64 t365)).setCell ⟨gb368, 1, none⟩ (.int .i64 t366)).setCell ⟨gb368, 2, none⟩ (.int .i64 t367)).setCell ⟨gb368, 1, none⟩ (.int .i64 t362)).heap[gb368]? = some (.cells #[.int .i64 t365, .int .i64 t362, .int .i64 t367] 23 (0, 0))) := ⟨by (with_reducible repeat (first | refine blk_drewN ?_ _ | refine blk_drew ?_ | refine blk_alloc ?_ _)); refine blk_put (cs := #[.int .i64 t365, .int .i64 t366, .int .i64 t367]) ?_ 1 _ rfl; (with_reducible repeat (first | refine blk_drewN ?_ _ | refine blk_drew ?_ | refine blk_alloc ?_ _)); refine blk_put (cs := #[.int .i64 t365, .int .i64 t366, .int .i64 0]) ?_ 2 _ rfl; (with_reducible repeat (first | refine blk_drewN ?_ _ | refine blk_drew ?_ | refine blk_alloc ?_ _)); refine blk_put (cs := #[.int .i64 t365, .int .i64 0, .int .i64 0]) ?_ 1 _ rfl; (with_reducible repeat (first | refine blk_drewN ?_ _ | refine blk_drew ?_ | refine blk_alloc ?_ _)); refine blk_put (cs := #[.int .i64 0, .int .i64 0, .int .i64 0]) ?_ 0 _ rfl; (with_reducible repeat (first | refine blk_drewN ?_ _ | refine blk_drew ?_ | refine blk_alloc ?_ _)); exact BK368.out⟩
 have n4_ : Aside0 (Below w.heap.size w ((((w24.setCell ⟨gb368, 0, none⟩ (.int .i64 t365)).setCell ⟨gb368, 1, none⟩ (.int .i64 t366)).setCell ⟨gb368, 2, none⟩ (.int .i64 t367)).setCell ⟨gb368, 1, none⟩ (.int .i64 t362))) := ⟨by repeat (first | (with_reducible first | exact HB.out | apply below_alloc | apply pw_below_drewN | apply below_drew1 | refine below_set ?_ GE358.out | refine below_set ?_ GE359.out | refine below_set ?_ GE364.out | refine below_set ?_ GE368.out) | exact HB.out)⟩
 (try clear BK358)
 (try clear BK359)
 (try clear BK364)
 (try clear BK368)
 (try clear HB)
 generalize ((((w24.setCell ⟨gb368, 0, none⟩ (.int .i64 t365)).setCell ⟨gb368, 1, none⟩ (.int .i64 t366)).setCell ⟨gb368, 2, none⟩ (.int .i64 t367)).setCell ⟨gb368, 1, none⟩ (.int .i64 t362)) = w30 at n0_ n1_ n2_ n3_ n4_ ⊢
 have BK358 := n0_
 have BK359 := n1_
 have BK364 := n2_
 have BK368 := n3_
 have HB := n4_
 clear n0_ n1_ n2_ n3_ n4_
 have n0_ := Aside0.mk (blk_drew BK358.out)
 have n1_ := Aside0.mk (blk_drew BK359.out)
 have n2_ := Aside0.mk (blk_drew BK364.out)
 have n3_ := Aside0.mk (blk_drew BK368.out)
 have n4_ := Aside0.mk (below_drew1 HB.out)
 clear BK358
 clear BK359
 clear BK364
 clear BK368
 clear HB
 have BK358 := n0_
 have BK359 := n1_
 have BK364 := n2_
 have BK368 := n3_
 have HB := n4_
 clear n0_ n1_ n2_ n3_ n4_
 refine start_ (n := 11) (S := fun w' => w'.cell? ⟨gb364, 0, none⟩ = some (.int .i64 t361) ∧ w'.cell? ⟨gb364, 1, none⟩ = some (.int .i64 t362) ∧ w'.cell? ⟨gb364, 2, none⟩ = some (.int .i64 t363) ∧ w'.cell? ⟨gb368, 0, none⟩ = some (.int .i64 t365) ∧ w'.cell? ⟨gb368, 1, none⟩ = some (.int .i64 t362) ∧ w'.cell? ⟨gb368, 2, none⟩ = some (.int .i64 t367)) (ds := []) #[false, false, false, false, false, false, false, false, false, false, false] (by kernel_rfl) rfl rfl ⟨(blk_cell BK364.out 0).trans rfl, (blk_cell BK364.out 1).trans rfl, (blk_cell BK364.out 2).trans rfl, (blk_cell BK368.out 0).trans rfl, (blk_cell BK368.out 1).trans rfl, (blk_cell BK368.out 2).trans rfl⟩ (fun hHeld => ?_); refine with_tabW gambrellaw22_PlanParity.tab5 gambrellaw22_PlanParity.bits5 (fun HT_ HW_ => ?_)
 generalize w30.drew = w31 at BK358 BK359 BK364 BK368 HB hHeld ⊢
 refine take_ (i := 0) (N := some 23) (v := ?_) (a' := ?_) #[true, false, false, false, false, false, false, false, false, false, false] rfl rfl (take_ofW HT_.out HW_.out (by kernel_rfl)) (fun _ _ _ h => h) (Or.inl ⟨by rfl, ?_⟩) hHeld ?_ ?_
 rotate_left
 ·rintro w' ⟨s0, s1, s2, s3, s4, s5⟩
  go_simp
  with_reducible rfl
 rotate_left
 ·simp only [Act.put, List.setIfInBounds_toArray, List.set_cons_zero, List.set_cons_succ, i64_w, i32_w]
  rfl
 refine take_ (i := 1) (N := some 24) (v := ?_) (a' := ?_) #[true, true, false, false, false, false, false, false, false, false, false] rfl rfl (take_ofW HT_.out HW_.out (by kernel_rfl)) (fun _ _ _ h => h) (Or.inl ⟨by rfl, ?_⟩) hHeld ?_ ?_
 rotate_left
 ·rintro w' ⟨s0, s1, s2, s3, s4, s5⟩
  go_simp
  with_reducible rfl
 rotate_left
 ·simp only [Act.put, List.setIfInBounds_toArray, List.set_cons_zero, List.set_cons_succ, i64_w, i32_w]
  rfl
 refine take_ (i := 3) (N := some 26) (v := ?_) (a' := ?_) #[true, true, false, true, false, false, false, false, false, false, false] rfl rfl (take_ofW HT_.out HW_.out (by kernel_rfl)) (fun _ _ _ h => h) (Or.inl ⟨by rfl, ?_⟩) hHeld ?_ ?_
 rotate_left
 ·rintro w' ⟨s0, s1, s2, s3, s4, s5⟩
  go_simp
  with_reducible rfl
 rotate_left
 ·simp only [Act.put, List.setIfInBounds_toArray, List.set_cons_zero, List.set_cons_succ, i64_w, i32_w]
  rfl
 refine join_ (σ := Value × Value × Value × Nat) 2 #[true, true, true, true, true, true, true, true, true, false, false] (fun s_ => [(25, s_.1), (27, .tuple #[.agg #[.bool t372, .bool t373, s_.2.1, s_.2.2.1], .int .i64 t380]), (8, .pointer (some ⟨s_.2.2.2, 0, none⟩)), (22, .tuple #[.agg #[.bool t372, .bool t373, s_.2.1, s_.2.2.1], .int .i64 t380]), (28, .agg #[.bool t372, .bool t373, s_.2.1, s_.2.2.1]), (29, .int .i64 t380)]) (fun s_ w' => (w'.cell? ⟨gb364, 0, none⟩ = some (.int .i64 t361) ∧ w'.cell? ⟨gb364, 1, none⟩ = some (.int .i64 t362) ∧ w'.cell? ⟨gb364, 2, none⟩ = some (.int .i64 t363) ∧ w'.cell? ⟨gb368, 0, none⟩ = some (.int .i64 t365) ∧ w'.cell? ⟨gb368, 1, none⟩ = some (.int .i64 t362) ∧ w'.cell? ⟨gb368, 2, none⟩ = some (.int .i64 t367)) ∧ (Kd.R (Kd.int .i64) 3 w' w.heap.size (fun _ => True) s_.1 t369) ∧ (Kd.R Kd.string 9 w' w.heap.size (fun k_ => some k_ ≠ (s_.2.2.1 : Value).ownBlock) s_.2.1 t374) ∧ (Kd.R Kd.string 9 w' w.heap.size (fun k_ => some k_ ≠ (s_.2.1 : Value).ownBlock) s_.2.2.1 t377) ∧ (w'.heap[gb358]? = some (.cells #[.int .u8 a0_0, .int .u8 a0_1, .int .u8 a0_2] 39 (0, 0))) ∧ (w'.heap[gb359]? = some (.cells #[.int .u8 a1_0, .int .u8 a1_1, .int .u8 a1_2] 39 (0, 0))) ∧ (w'.heap[gb364]? = some (.cells #[.int .i64 t361, .int .i64 t362, .int .i64 t363] 23 (0, 0))) ∧ (w'.heap[gb368]? = some (.cells #[.int .i64 t365, .int .i64 t362, .int .i64 t367] 23 (0, 0))) ∧ (w'.heap[s_.2.2.2]? = some (.cells #[.bool false, .bool false, .slice none 0 0, .slice none 0 0] 30 (0, 0))) ∧ (w.heap.size ≤ s_.2.2.2) ∧ (w.heap.size ≤ s_.2.2.2) ∧ (gb358 ≠ s_.2.2.2) ∧ (s_.2.2.2 ≠ gb358) ∧ (gb359 ≠ s_.2.2.2) ∧ (s_.2.2.2 ≠ gb359) ∧ (gb364 ≠ s_.2.2.2) ∧ (s_.2.2.2 ≠ gb364) ∧ (gb368 ≠ s_.2.2.2) ∧ (s_.2.2.2 ≠ gb368) ∧ (Below w.heap.size w w')) ?_ ?_
 rotate_left
 ·intro hCont
  refine two_ (i := 2) (j := 8) (Ni := some 25) (Nj := some 8) #[true, true, true, true, false, false, false, false, false, false, false] #[true, true, false, true, false, false, false, false, true, false, false] rfl rfl rfl rfl (two_of HT_.out (by kernel_rfl)) (by decide) (by decide) (fun K hK => ?_) (fun K hK => ?_)
  ·skip
   refine goes_ Tryd.func12 (by kernel_rfl) rfl #[.agg #[.int .i64 t361, .int .i64 t362, .int .i64 t363], .int .u8 15, .int .u8 0] (by rfl) rfl rfl (by (try simp only [List.map_toArray, List.map_cons, List.map_nil]); first | done | rfl | (simp only [List.length_drop, List.length_take]; rfl)) ?_
   with_reducible refine (gambrellaw22_states.calls k t361 t362 t363 15 0 t369 _ A6.out).mono ?_
   rintro e w32 ⟨v370, rfl, ho0, hb⟩
   refine ⟨_, rfl, ?_⟩
   have n0_ := Aside0.mk (Kd.R_lower ho0 (below_size (by repeat (first | (with_reducible first | exact HB.out | apply below_alloc | apply pw_below_drewN | apply below_drew1 | refine below_set ?_ GE358.out | refine below_set ?_ GE359.out | refine below_set ?_ GE364.out | refine below_set ?_ GE368.out) | exact HB.out))))
   have n1_ := Aside0.mk (blk_below (g := gb358) (o := .cells #[.int .u8 a0_0, .int .u8 a0_1, .int .u8 a0_2] 39 (0, 0)) (by (with_reducible repeat (first | refine blk_drewN ?_ _ | refine blk_drew ?_ | refine blk_alloc ?_ _)); exact BK358.out) hb)
   have n2_ := Aside0.mk (blk_below (g := gb359) (o := .cells #[.int .u8 a1_0, .int .u8 a1_1, .int .u8 a1_2] 39 (0, 0)) (by (with_reducible repeat (first | refine blk_drewN ?_ _ | refine blk_drew ?_ | refine blk_alloc ?_ _)); exact BK359.out) hb)
   have n3_ := Aside0.mk (blk_below (g := gb364) (o := .cells #[.int .i64 t361, .int .i64 t362, .int .i64 t363] 23 (0, 0)) (by (with_reducible repeat (first | refine blk_drewN ?_ _ | refine blk_drew ?_ | refine blk_alloc ?_ _)); exact BK364.out) hb)
   have n4_ := Aside0.mk (blk_below (g := gb368) (o := .cells #[.int .i64 t365, .int .i64 t362, .int .i64 t367] 23 (0, 0)) (by (with_reducible repeat (first | refine blk_drewN ?_ _ | refine blk_drew ?_ | refine blk_alloc ?_ _)); exact BK368.out) hb)
   have n5_ := Aside0.mk (below_step (by repeat (first | (with_reducible first | exact HB.out | apply below_alloc | apply pw_below_drewN | apply below_drew1 | refine below_set ?_ GE358.out | refine below_set ?_ GE359.out | refine below_set ?_ GE364.out | refine below_set ?_ GE368.out) | exact HB.out)) hb)
   clear BK358
   clear BK359
   clear BK364
   clear BK368
   clear HB
   have HO371 := n0_
   have BK358 := n1_
   have BK359 := n2_
   have BK364 := n3_
   have BK368 := n4_
   have HB := n5_
   clear n0_ n1_ n2_ n3_ n4_ n5_
   (try clear hb)
   (try clear hb2)
   (try clear hk)
   (try clear hi)
   (try clear ho0)
   obtain ⟨Ao33, co33, eo33⟩ := Kd.R_slice HO371.out
   (first | subst eo33 | (injection eo33 with f1_ f2_ f3_; have f4_ := f1_.symm; have f5_ := f3_.symm; clear f1_ f2_ f3_; subst f4_; subst f5_))
   refine hK.out _ _ ⟨(blk_cell BK364.out 0).trans rfl, (blk_cell BK364.out 1).trans rfl, (blk_cell BK364.out 2).trans rfl, (blk_cell BK368.out 0).trans rfl, (blk_cell BK368.out 1).trans rfl, (blk_cell BK368.out 2).trans rfl⟩ (fun hHeld => ?_)
   clear hK K
   refine norm_ (a' := ?_) ?_ ?_
   rotate_left
   ·show Act.put _ (some 25) _ = _
    simp only [Act.put, List.setIfInBounds_toArray, List.set_cons_zero, List.set_cons_succ, i64_w, i32_w]
    rfl
   refine two_ (i := 4) (j := 8) (Ni := some 27) (Nj := some 8) #[true, true, true, true, true, false, false, false, false, false, false] #[true, true, true, true, false, false, false, false, true, false, false] rfl rfl rfl rfl (two_of HT_.out (by kernel_rfl)) (by decide) (by decide) (fun K hK => ?_) (fun K hK => ?_)
   ·skip
    refine goes_ Tryd.func8 (by kernel_rfl) rfl #[.string (⟨#[97, 98, 99]⟩ : ByteArray), .agg #[.int .i64 t361, .int .i64 t362, .int .i64 t363], .slice Ao33 t369.length co33, .agg #[.int .i64 t365, .int .i64 t362, .int .i64 t367]] (by rfl) rfl rfl (by (try simp only [List.map_toArray, List.map_cons, List.map_nil]); first | done | rfl | (simp only [List.length_drop, List.length_take]; rfl)) ?_
    with_reducible refine (plan_Of.calls k (⟨#[97, 98, 99]⟩ : ByteArray) t361 t362 t363 _ _ t369 t365 t362 t367 t372 t373 t374 t377 t380 _ ?side1 ?side2 A7.out).mono ?_
    (case side1 => repeat (first | exact (Kd.R_reads' HO371.out).2.2 | (with_reducible refine Kd.C_alloc ?_ _) | (with_reducible refine Kd.C_drewN ?_ _) | (with_reducible refine Kd.C_drew ?_)))
    (case side2 => exact (Kd.R_reads' HO371.out).2.1)
    rintro e w34 ⟨v375, v378, rfl, ho0, ho1, hb⟩
    refine ⟨_, rfl, ?_⟩
    have n0_ := Aside0.mk (Kd.R_below (by (with_reducible repeat (first | apply Kd.R_alloc | apply Kd.R_drewN | apply Kd.R_drew)); exact HO371.out) hb)
    have n1_ := Aside0.mk (Kd.R_lower ho0 (below_size (by repeat (first | (with_reducible first | exact HB.out | apply below_alloc | apply pw_below_drewN | apply below_drew1 | refine below_set ?_ GE358.out | refine below_set ?_ GE359.out | refine below_set ?_ GE364.out | refine below_set ?_ GE368.out) | exact HB.out))))
    have n2_ := Aside0.mk (Kd.R_lower ho1 (below_size (by repeat (first | (with_reducible first | exact HB.out | apply below_alloc | apply pw_below_drewN | apply below_drew1 | refine below_set ?_ GE358.out | refine below_set ?_ GE359.out | refine below_set ?_ GE364.out | refine below_set ?_ GE368.out) | exact HB.out))))
    have n3_ := Aside0.mk (blk_below (g := gb358) (o := .cells #[.int .u8 a0_0, .int .u8 a0_1, .int .u8 a0_2] 39 (0, 0)) (by (with_reducible repeat (first | refine blk_drewN ?_ _ | refine blk_drew ?_ | refine blk_alloc ?_ _)); exact BK358.out) hb)
    have n4_ := Aside0.mk (blk_below (g := gb359) (o := .cells #[.int .u8 a1_0, .int .u8 a1_1, .int .u8 a1_2] 39 (0, 0)) (by (with_reducible repeat (first | refine blk_drewN ?_ _ | refine blk_drew ?_ | refine blk_alloc ?_ _)); exact BK359.out) hb)
    have n5_ := Aside0.mk (blk_below (g := gb364) (o := .cells #[.int .i64 t361, .int .i64 t362, .int .i64 t363] 23 (0, 0)) (by (with_reducible repeat (first | refine blk_drewN ?_ _ | refine blk_drew ?_ | refine blk_alloc ?_ _)); exact BK364.out) hb)
    have n6_ := Aside0.mk (blk_below (g := gb368) (o := .cells #[.int .i64 t365, .int .i64 t362, .int .i64 t367] 23 (0, 0)) (by (with_reducible repeat (first | refine blk_drewN ?_ _ | refine blk_drew ?_ | refine blk_alloc ?_ _)); exact BK368.out) hb)
    have n7_ := Aside0.mk (below_step (by repeat (first | (with_reducible first | exact HB.out | apply below_alloc | apply pw_below_drewN | apply below_drew1 | refine below_set ?_ GE358.out | refine below_set ?_ GE359.out | refine below_set ?_ GE364.out | refine below_set ?_ GE368.out) | exact HB.out)) hb)
    clear HO371
    clear BK358
    clear BK359
    clear BK364
    clear BK368
    clear HB
    have HO371 := n0_
    have HO376 := n1_
    have HO379 := n2_
    have BK358 := n3_
    have BK359 := n4_
    have BK364 := n5_
    have BK368 := n6_
    have HB := n7_
    clear n0_ n1_ n2_ n3_ n4_ n5_ n6_ n7_
    (try clear hb)
    (try clear hb2)
    (try clear hk)
    (try clear hi)
    (try clear ho0)
    (try clear ho1)
    refine hK.out _ _ ⟨(blk_cell BK364.out 0).trans rfl, (blk_cell BK364.out 1).trans rfl, (blk_cell BK364.out 2).trans rfl, (blk_cell BK368.out 0).trans rfl, (blk_cell BK368.out 1).trans rfl, (blk_cell BK368.out 2).trans rfl⟩ (fun hHeld => ?_)
    clear hK K
    refine norm_ (a' := ?_) ?_ ?_
    rotate_left
    ·show Act.put _ (some 27) _ = _
     simp only [Act.put, List.setIfInBounds_toArray, List.set_cons_zero, List.set_cons_succ, i64_w, i32_w]
     rfl
    refine pure_ (i := 5) (N := some 22) (v := ?_) (a' := ?_) #[true, true, true, true, true, true, false, false, false, false, false] rfl rfl (any_of HT_.out (by kernel_rfl)) (fun _ _ _ h => h) (Or.inl ⟨by rfl, ?_⟩) ?_ ?_
    rotate_left
    ·intro w'
     go_simp
     with_reducible rfl
    rotate_left
    ·simp only [Act.put, List.setIfInBounds_toArray, List.set_cons_zero, List.set_cons_succ, i64_w, i32_w]
     rfl
    refine pure_ (i := 6) (N := some 28) (v := ?_) (a' := ?_) #[true, true, true, true, true, true, true, false, false, false, false] rfl rfl (any_of HT_.out (by kernel_rfl)) (fun _ _ _ h => h) (Or.inl ⟨by rfl, ?_⟩) ?_ ?_
    rotate_left
    ·intro w'
     go_simp
     with_reducible rfl
    rotate_left
    ·simp only [Act.put, List.setIfInBounds_toArray, List.set_cons_zero, List.set_cons_succ, i64_w, i32_w]
     rfl
    refine pure_ (i := 7) (N := some 29) (v := ?_) (a' := ?_) #[true, true, true, true, true, true, true, true, false, false, false] rfl rfl (any_of HT_.out (by kernel_rfl)) (fun _ _ _ h => h) (Or.inl ⟨by rfl, ?_⟩) ?_ ?_
    rotate_left
    ·intro w'
     go_simp
     with_reducible rfl
    rotate_left
    ·simp only [Act.put, List.setIfInBounds_toArray, List.set_cons_zero, List.set_cons_succ, i64_w, i32_w]
     rfl
    refine one_ (i := 8) (N := some 8) #[true, true, true, true, true, true, true, true, true, false, false] rfl rfl (one_of HT_.out (by kernel_rfl)) (by decide) (fun K hK => ?_)
    refine box_step ?hg (N := 8) ?hd (cs := #[.bool false, .bool false, .slice none 0 0, .slice none 0 0]) (t := 30) ?hr ?_; (case hd => rfl); (case hg => rfl); (case hr => first | (go_simp; done) | (go_simp; rfl))
    intro gb381 hg w35 hbox hb
    have n0_ := Aside0.mk (Kd.R_below (by (with_reducible repeat (first | apply Kd.R_alloc | apply Kd.R_drewN | apply Kd.R_drew)); exact HO371.out) hb)
    have n1_ := Aside0.mk (Kd.R_below (by (with_reducible repeat (first | apply Kd.R_alloc | apply Kd.R_drewN | apply Kd.R_drew)); exact HO376.out) hb)
    have n2_ := Aside0.mk (Kd.R_below (by (with_reducible repeat (first | apply Kd.R_alloc | apply Kd.R_drewN | apply Kd.R_drew)); exact HO379.out) hb)
    have n3_ := Aside0.mk (blk_below (g := gb358) (o := .cells #[.int .u8 a0_0, .int .u8 a0_1, .int .u8 a0_2] 39 (0, 0)) (by (with_reducible repeat (first | refine blk_drewN ?_ _ | refine blk_drew ?_ | refine blk_alloc ?_ _)); exact BK358.out) hb)
    have n4_ := Aside0.mk (blk_below (g := gb359) (o := .cells #[.int .u8 a1_0, .int .u8 a1_1, .int .u8 a1_2] 39 (0, 0)) (by (with_reducible repeat (first | refine blk_drewN ?_ _ | refine blk_drew ?_ | refine blk_alloc ?_ _)); exact BK359.out) hb)
    have n5_ := Aside0.mk (blk_below (g := gb364) (o := .cells #[.int .i64 t361, .int .i64 t362, .int .i64 t363] 23 (0, 0)) (by (with_reducible repeat (first | refine blk_drewN ?_ _ | refine blk_drew ?_ | refine blk_alloc ?_ _)); exact BK364.out) hb)
    have n6_ := Aside0.mk (blk_below (g := gb368) (o := .cells #[.int .i64 t365, .int .i64 t362, .int .i64 t367] 23 (0, 0)) (by (with_reducible repeat (first | refine blk_drewN ?_ _ | refine blk_drew ?_ | refine blk_alloc ?_ _)); exact BK368.out) hb)
    have n7_ := Aside0.mk (below_step (by repeat (first | (with_reducible first | exact HB.out | apply below_alloc | apply pw_below_drewN | apply below_drew1 | refine below_set ?_ GE358.out | refine below_set ?_ GE359.out | refine below_set ?_ GE364.out | refine below_set ?_ GE368.out) | exact HB.out)) hb)
    have n8_ := Aside0.mk (hbox)
    have n9_ := Aside0.mk ((by rw [hg]; exact (below_size (by repeat (first | (with_reducible first | exact HB.out | apply below_alloc | apply pw_below_drewN | apply below_drew1 | refine below_set ?_ GE358.out | refine below_set ?_ GE359.out | refine below_set ?_ GE364.out | refine below_set ?_ GE368.out) | exact HB.out))) : w.heap.size ≤ gb381))
    have n10_ := Aside0.mk ((by rw [hg]; exact (below_size (by repeat (first | (with_reducible first | exact HB.out | apply below_alloc | apply pw_below_drewN | apply below_drew1 | refine below_set ?_ GE358.out | refine below_set ?_ GE359.out | refine below_set ?_ GE364.out | refine below_set ?_ GE368.out) | exact HB.out))) : w.heap.size ≤ gb381))
    have n11_ := Aside0.mk ((by rw [hg]; exact Nat.ne_of_lt (blk_lt (g := gb358) (o := .cells #[.int .u8 a0_0, .int .u8 a0_1, .int .u8 a0_2] 39 (0, 0)) (by (with_reducible repeat (first | refine blk_drewN ?_ _ | refine blk_drew ?_ | refine blk_alloc ?_ _)); exact BK358.out)) : gb358 ≠ gb381))
    have n12_ := Aside0.mk ((by rw [hg]; exact Nat.ne_of_gt (blk_lt (g := gb358) (o := .cells #[.int .u8 a0_0, .int .u8 a0_1, .int .u8 a0_2] 39 (0, 0)) (by (with_reducible repeat (first | refine blk_drewN ?_ _ | refine blk_drew ?_ | refine blk_alloc ?_ _)); exact BK358.out)) : gb381 ≠ gb358))
    have n13_ := Aside0.mk ((by rw [hg]; exact Nat.ne_of_lt (blk_lt (g := gb359) (o := .cells #[.int .u8 a1_0, .int .u8 a1_1, .int .u8 a1_2] 39 (0, 0)) (by (with_reducible repeat (first | refine blk_drewN ?_ _ | refine blk_drew ?_ | refine blk_alloc ?_ _)); exact BK359.out)) : gb359 ≠ gb381))
    have n14_ := Aside0.mk ((by rw [hg]; exact Nat.ne_of_gt (blk_lt (g := gb359) (o := .cells #[.int .u8 a1_0, .int .u8 a1_1, .int .u8 a1_2] 39 (0, 0)) (by (with_reducible repeat (first | refine blk_drewN ?_ _ | refine blk_drew ?_ | refine blk_alloc ?_ _)); exact BK359.out)) : gb381 ≠ gb359))
    have n15_ := Aside0.mk ((by rw [hg]; exact Nat.ne_of_lt (blk_lt (g := gb364) (o := .cells #[.int .i64 t361, .int .i64 t362, .int .i64 t363] 23 (0, 0)) (by (with_reducible repeat (first | refine blk_drewN ?_ _ | refine blk_drew ?_ | refine blk_alloc ?_ _)); exact BK364.out)) : gb364 ≠ gb381))
    have n16_ := Aside0.mk ((by rw [hg]; exact Nat.ne_of_gt (blk_lt (g := gb364) (o := .cells #[.int .i64 t361, .int .i64 t362, .int .i64 t363] 23 (0, 0)) (by (with_reducible repeat (first | refine blk_drewN ?_ _ | refine blk_drew ?_ | refine blk_alloc ?_ _)); exact BK364.out)) : gb381 ≠ gb364))
    have n17_ := Aside0.mk ((by rw [hg]; exact Nat.ne_of_lt (blk_lt (g := gb368) (o := .cells #[.int .i64 t365, .int .i64 t362, .int .i64 t367] 23 (0, 0)) (by (with_reducible repeat (first | refine blk_drewN ?_ _ | refine blk_drew ?_ | refine blk_alloc ?_ _)); exact BK368.out)) : gb368 ≠ gb381))
    have n18_ := Aside0.mk ((by rw [hg]; exact Nat.ne_of_gt (blk_lt (g := gb368) (o := .cells #[.int .i64 t365, .int .i64 t362, .int .i64 t367] 23 (0, 0)) (by (with_reducible repeat (first | refine blk_drewN ?_ _ | refine blk_drew ?_ | refine blk_alloc ?_ _)); exact BK368.out)) : gb381 ≠ gb368))
    clear HO371
    clear HO376
    clear HO379
    clear BK358
    clear BK359
    clear BK364
    clear BK368
    clear HB
    have HO371 := n0_
    have HO376 := n1_
    have HO379 := n2_
    have BK358 := n3_
    have BK359 := n4_
    have BK364 := n5_
    have BK368 := n6_
    have HB := n7_
    have BK381 := n8_
    have GW381 := n9_
    have GE381 := n10_
    have NB358_381 := n11_
    have NB381_358 := n12_
    have NB359_381 := n13_
    have NB381_359 := n14_
    have NB364_381 := n15_
    have NB381_364 := n16_
    have NB368_381 := n17_
    have NB381_368 := n18_
    clear n0_ n1_ n2_ n3_ n4_ n5_ n6_ n7_ n8_ n9_ n10_ n11_ n12_ n13_ n14_ n15_ n16_ n17_ n18_
    clear hb hbox hg
    refine hK.out _ _ ⟨(blk_cell BK364.out 0).trans rfl, (blk_cell BK364.out 1).trans rfl, (blk_cell BK364.out 2).trans rfl, (blk_cell BK368.out 0).trans rfl, (blk_cell BK368.out 1).trans rfl, (blk_cell BK368.out 2).trans rfl⟩ (fun hHeld => ?_)
    clear hK K
    refine norm_ (a' := ?_) ?_ ?_
    rotate_left
    ·show Act.put _ (some 8) _ = _
     simp only [Act.put, List.setIfInBounds_toArray, List.set_cons_zero, List.set_cons_succ, i64_w, i32_w]
     rfl
    exact norm_ (by simp only [putAll, Act.put, List.setIfInBounds_toArray, List.set_cons_zero, List.set_cons_succ]) (hCont (.slice Ao33 t369.length co33, v375, v378, gb381) _ ⟨hHeld, (by (with_reducible repeat (first | apply Kd.R_alloc | apply Kd.R_drewN | apply Kd.R_drew)); exact HO371.out), (by (with_reducible repeat (first | apply Kd.R_alloc | apply Kd.R_drewN | apply Kd.R_drew)); exact HO376.out), (by (with_reducible repeat (first | apply Kd.R_alloc | apply Kd.R_drewN | apply Kd.R_drew)); exact HO379.out), (by (with_reducible repeat (first | refine blk_drewN ?_ _ | refine blk_drew ?_ | refine blk_alloc ?_ _)); exact BK358.out), (by (with_reducible repeat (first | refine blk_drewN ?_ _ | refine blk_drew ?_ | refine blk_alloc ?_ _)); exact BK359.out), (by (with_reducible repeat (first | refine blk_drewN ?_ _ | refine blk_drew ?_ | refine blk_alloc ?_ _)); exact BK364.out), (by (with_reducible repeat (first | refine blk_drewN ?_ _ | refine blk_drew ?_ | refine blk_alloc ?_ _)); exact BK368.out), (by (with_reducible repeat (first | refine blk_drewN ?_ _ | refine blk_drew ?_ | refine blk_alloc ?_ _)); exact BK381.out), GW381.out, GE381.out, NB358_381.out, NB381_358.out, NB359_381.out, NB381_359.out, NB364_381.out, NB381_364.out, NB368_381.out, NB381_368.out, (by repeat (first | (with_reducible first | exact HB.out | apply below_alloc | apply pw_below_drewN | apply below_drew1 | refine below_set ?_ GE358.out | refine below_set ?_ GE359.out | refine below_set ?_ GE364.out | refine below_set ?_ GE368.out | refine below_set ?_ GE381.out) | exact HB.out))⟩)
   ·skip
    refine box_step ?hg (N := 8) ?hd (cs := #[.bool false, .bool false, .slice none 0 0, .slice none 0 0]) (t := 30) ?hr ?_; (case hd => rfl); (case hg => rfl); (case hr => first | (go_simp; done) | (go_simp; rfl))
    intro gb381 hg w33 hbox hb
    have n0_ := Aside0.mk (Kd.R_below (by (with_reducible repeat (first | apply Kd.R_alloc | apply Kd.R_drewN | apply Kd.R_drew)); exact HO371.out) hb)
    have n1_ := Aside0.mk (blk_below (g := gb358) (o := .cells #[.int .u8 a0_0, .int .u8 a0_1, .int .u8 a0_2] 39 (0, 0)) (by (with_reducible repeat (first | refine blk_drewN ?_ _ | refine blk_drew ?_ | refine blk_alloc ?_ _)); exact BK358.out) hb)
    have n2_ := Aside0.mk (blk_below (g := gb359) (o := .cells #[.int .u8 a1_0, .int .u8 a1_1, .int .u8 a1_2] 39 (0, 0)) (by (with_reducible repeat (first | refine blk_drewN ?_ _ | refine blk_drew ?_ | refine blk_alloc ?_ _)); exact BK359.out) hb)
    have n3_ := Aside0.mk (blk_below (g := gb364) (o := .cells #[.int .i64 t361, .int .i64 t362, .int .i64 t363] 23 (0, 0)) (by (with_reducible repeat (first | refine blk_drewN ?_ _ | refine blk_drew ?_ | refine blk_alloc ?_ _)); exact BK364.out) hb)
    have n4_ := Aside0.mk (blk_below (g := gb368) (o := .cells #[.int .i64 t365, .int .i64 t362, .int .i64 t367] 23 (0, 0)) (by (with_reducible repeat (first | refine blk_drewN ?_ _ | refine blk_drew ?_ | refine blk_alloc ?_ _)); exact BK368.out) hb)
    have n5_ := Aside0.mk (below_step (by repeat (first | (with_reducible first | exact HB.out | apply below_alloc | apply pw_below_drewN | apply below_drew1 | refine below_set ?_ GE358.out | refine below_set ?_ GE359.out | refine below_set ?_ GE364.out | refine below_set ?_ GE368.out) | exact HB.out)) hb)
    have n6_ := Aside0.mk (hbox)
    have n7_ := Aside0.mk ((by rw [hg]; exact (below_size (by repeat (first | (with_reducible first | exact HB.out | apply below_alloc | apply pw_below_drewN | apply below_drew1 | refine below_set ?_ GE358.out | refine below_set ?_ GE359.out | refine below_set ?_ GE364.out | refine below_set ?_ GE368.out) | exact HB.out))) : w.heap.size ≤ gb381))
    have n8_ := Aside0.mk ((by rw [hg]; exact (below_size (by repeat (first | (with_reducible first | exact HB.out | apply below_alloc | apply pw_below_drewN | apply below_drew1 | refine below_set ?_ GE358.out | refine below_set ?_ GE359.out | refine below_set ?_ GE364.out | refine below_set ?_ GE368.out) | exact HB.out))) : w.heap.size ≤ gb381))
    have n9_ := Aside0.mk ((by rw [hg]; exact Nat.ne_of_lt (blk_lt (g := gb358) (o := .cells #[.int .u8 a0_0, .int .u8 a0_1, .int .u8 a0_2] 39 (0, 0)) (by (with_reducible repeat (first | refine blk_drewN ?_ _ | refine blk_drew ?_ | refine blk_alloc ?_ _)); exact BK358.out)) : gb358 ≠ gb381))
    have n10_ := Aside0.mk ((by rw [hg]; exact Nat.ne_of_gt (blk_lt (g := gb358) (o := .cells #[.int .u8 a0_0, .int .u8 a0_1, .int .u8 a0_2] 39 (0, 0)) (by (with_reducible repeat (first | refine blk_drewN ?_ _ | refine blk_drew ?_ | refine blk_alloc ?_ _)); exact BK358.out)) : gb381 ≠ gb358))
    have n11_ := Aside0.mk ((by rw [hg]; exact Nat.ne_of_lt (blk_lt (g := gb359) (o := .cells #[.int .u8 a1_0, .int .u8 a1_1, .int .u8 a1_2] 39 (0, 0)) (by (with_reducible repeat (first | refine blk_drewN ?_ _ | refine blk_drew ?_ | refine blk_alloc ?_ _)); exact BK359.out)) : gb359 ≠ gb381))
    have n12_ := Aside0.mk ((by rw [hg]; exact Nat.ne_of_gt (blk_lt (g := gb359) (o := .cells #[.int .u8 a1_0, .int .u8 a1_1, .int .u8 a1_2] 39 (0, 0)) (by (with_reducible repeat (first | refine blk_drewN ?_ _ | refine blk_drew ?_ | refine blk_alloc ?_ _)); exact BK359.out)) : gb381 ≠ gb359))
    have n13_ := Aside0.mk ((by rw [hg]; exact Nat.ne_of_lt (blk_lt (g := gb364) (o := .cells #[.int .i64 t361, .int .i64 t362, .int .i64 t363] 23 (0, 0)) (by (with_reducible repeat (first | refine blk_drewN ?_ _ | refine blk_drew ?_ | refine blk_alloc ?_ _)); exact BK364.out)) : gb364 ≠ gb381))
    have n14_ := Aside0.mk ((by rw [hg]; exact Nat.ne_of_gt (blk_lt (g := gb364) (o := .cells #[.int .i64 t361, .int .i64 t362, .int .i64 t363] 23 (0, 0)) (by (with_reducible repeat (first | refine blk_drewN ?_ _ | refine blk_drew ?_ | refine blk_alloc ?_ _)); exact BK364.out)) : gb381 ≠ gb364))
    have n15_ := Aside0.mk ((by rw [hg]; exact Nat.ne_of_lt (blk_lt (g := gb368) (o := .cells #[.int .i64 t365, .int .i64 t362, .int .i64 t367] 23 (0, 0)) (by (with_reducible repeat (first | refine blk_drewN ?_ _ | refine blk_drew ?_ | refine blk_alloc ?_ _)); exact BK368.out)) : gb368 ≠ gb381))
    have n16_ := Aside0.mk ((by rw [hg]; exact Nat.ne_of_gt (blk_lt (g := gb368) (o := .cells #[.int .i64 t365, .int .i64 t362, .int .i64 t367] 23 (0, 0)) (by (with_reducible repeat (first | refine blk_drewN ?_ _ | refine blk_drew ?_ | refine blk_alloc ?_ _)); exact BK368.out)) : gb381 ≠ gb368))
    clear HO371
    clear BK358
    clear BK359
    clear BK364
    clear BK368
    clear HB
    have HO371 := n0_
    have BK358 := n1_
    have BK359 := n2_
    have BK364 := n3_
    have BK368 := n4_
    have HB := n5_
    have BK381 := n6_
    have GW381 := n7_
    have GE381 := n8_
    have NB358_381 := n9_
    have NB381_358 := n10_
    have NB359_381 := n11_
    have NB381_359 := n12_
    have NB364_381 := n13_
    have NB381_364 := n14_
    have NB368_381 := n15_
    have NB381_368 := n16_
    clear n0_ n1_ n2_ n3_ n4_ n5_ n6_ n7_ n8_ n9_ n10_ n11_ n12_ n13_ n14_ n15_ n16_
    clear hb hbox hg
    obtain ⟨Ao34, co34, eo34⟩ := Kd.R_slice HO371.out
    (first | subst eo34 | (injection eo34 with f1_ f2_ f3_; have f4_ := f1_.symm; have f5_ := f3_.symm; clear f1_ f2_ f3_; subst f4_; subst f5_))
    refine hK.out _ _ ⟨(blk_cell BK364.out 0).trans rfl, (blk_cell BK364.out 1).trans rfl, (blk_cell BK364.out 2).trans rfl, (blk_cell BK368.out 0).trans rfl, (blk_cell BK368.out 1).trans rfl, (blk_cell BK368.out 2).trans rfl⟩ (fun hHeld => ?_)
    clear hK K
    refine norm_ (a' := ?_) ?_ ?_
    rotate_left
    ·show Act.put _ (some 8) _ = _
     simp only [Act.put, List.setIfInBounds_toArray, List.set_cons_zero, List.set_cons_succ, i64_w, i32_w]
     rfl
    refine one_ (i := 4) (N := some 27) #[true, true, true, true, true, false, false, false, true, false, false] rfl rfl (one_of HT_.out (by kernel_rfl)) (by decide) (fun K hK => ?_)
    refine goes_ Tryd.func8 (by kernel_rfl) rfl #[.string (⟨#[97, 98, 99]⟩ : ByteArray), .agg #[.int .i64 t361, .int .i64 t362, .int .i64 t363], .slice Ao34 t369.length co34, .agg #[.int .i64 t365, .int .i64 t362, .int .i64 t367]] (by rfl) rfl rfl (by (try simp only [List.map_toArray, List.map_cons, List.map_nil]); first | done | rfl | (simp only [List.length_drop, List.length_take]; rfl)) ?_
    with_reducible refine (plan_Of.calls k (⟨#[97, 98, 99]⟩ : ByteArray) t361 t362 t363 _ _ t369 t365 t362 t367 t372 t373 t374 t377 t380 _ ?side1 ?side2 A7.out).mono ?_
    (case side1 => repeat (first | exact (Kd.R_reads' HO371.out).2.2 | (with_reducible refine Kd.C_alloc ?_ _) | (with_reducible refine Kd.C_drewN ?_ _) | (with_reducible refine Kd.C_drew ?_)))
    (case side2 => exact (Kd.R_reads' HO371.out).2.1)
    rintro e w35 ⟨v375, v378, rfl, ho0, ho1, hb⟩
    refine ⟨_, rfl, ?_⟩
    have n0_ := Aside0.mk (Kd.R_below (by (with_reducible repeat (first | apply Kd.R_alloc | apply Kd.R_drewN | apply Kd.R_drew)); exact HO371.out) hb)
    have n1_ := Aside0.mk (Kd.R_lower ho0 (below_size (by repeat (first | (with_reducible first | exact HB.out | apply below_alloc | apply pw_below_drewN | apply below_drew1 | refine below_set ?_ GE358.out | refine below_set ?_ GE359.out | refine below_set ?_ GE364.out | refine below_set ?_ GE368.out | refine below_set ?_ GE381.out) | exact HB.out))))
    have n2_ := Aside0.mk (Kd.R_lower ho1 (below_size (by repeat (first | (with_reducible first | exact HB.out | apply below_alloc | apply pw_below_drewN | apply below_drew1 | refine below_set ?_ GE358.out | refine below_set ?_ GE359.out | refine below_set ?_ GE364.out | refine below_set ?_ GE368.out | refine below_set ?_ GE381.out) | exact HB.out))))
    have n3_ := Aside0.mk (blk_below (g := gb358) (o := .cells #[.int .u8 a0_0, .int .u8 a0_1, .int .u8 a0_2] 39 (0, 0)) (by (with_reducible repeat (first | refine blk_drewN ?_ _ | refine blk_drew ?_ | refine blk_alloc ?_ _)); exact BK358.out) hb)
    have n4_ := Aside0.mk (blk_below (g := gb359) (o := .cells #[.int .u8 a1_0, .int .u8 a1_1, .int .u8 a1_2] 39 (0, 0)) (by (with_reducible repeat (first | refine blk_drewN ?_ _ | refine blk_drew ?_ | refine blk_alloc ?_ _)); exact BK359.out) hb)
    have n5_ := Aside0.mk (blk_below (g := gb364) (o := .cells #[.int .i64 t361, .int .i64 t362, .int .i64 t363] 23 (0, 0)) (by (with_reducible repeat (first | refine blk_drewN ?_ _ | refine blk_drew ?_ | refine blk_alloc ?_ _)); exact BK364.out) hb)
    have n6_ := Aside0.mk (blk_below (g := gb368) (o := .cells #[.int .i64 t365, .int .i64 t362, .int .i64 t367] 23 (0, 0)) (by (with_reducible repeat (first | refine blk_drewN ?_ _ | refine blk_drew ?_ | refine blk_alloc ?_ _)); exact BK368.out) hb)
    have n7_ := Aside0.mk (blk_below (g := gb381) (o := .cells #[.bool false, .bool false, .slice none 0 0, .slice none 0 0] 30 (0, 0)) (by (with_reducible repeat (first | refine blk_drewN ?_ _ | refine blk_drew ?_ | refine blk_alloc ?_ _)); exact BK381.out) hb)
    have n8_ := Aside0.mk (below_step (by repeat (first | (with_reducible first | exact HB.out | apply below_alloc | apply pw_below_drewN | apply below_drew1 | refine below_set ?_ GE358.out | refine below_set ?_ GE359.out | refine below_set ?_ GE364.out | refine below_set ?_ GE368.out | refine below_set ?_ GE381.out) | exact HB.out)) hb)
    clear HO371
    clear BK358
    clear BK359
    clear BK364
    clear BK368
    clear BK381
    clear HB
    have HO371 := n0_
    have HO376 := n1_
    have HO379 := n2_
    have BK358 := n3_
    have BK359 := n4_
    have BK364 := n5_
    have BK368 := n6_
    have BK381 := n7_
    have HB := n8_
    clear n0_ n1_ n2_ n3_ n4_ n5_ n6_ n7_ n8_
    (try clear hb)
    (try clear hb2)
    (try clear hk)
    (try clear hi)
    (try clear ho0)
    (try clear ho1)
    refine hK.out _ _ ⟨(blk_cell BK364.out 0).trans rfl, (blk_cell BK364.out 1).trans rfl, (blk_cell BK364.out 2).trans rfl, (blk_cell BK368.out 0).trans rfl, (blk_cell BK368.out 1).trans rfl, (blk_cell BK368.out 2).trans rfl⟩ (fun hHeld => ?_)
    clear hK K
    refine norm_ (a' := ?_) ?_ ?_
    rotate_left
    ·show Act.put _ (some 27) _ = _
     simp only [Act.put, List.setIfInBounds_toArray, List.set_cons_zero, List.set_cons_succ, i64_w, i32_w]
     rfl
    refine pure_ (i := 5) (N := some 22) (v := ?_) (a' := ?_) #[true, true, true, true, true, true, false, false, true, false, false] rfl rfl (any_of HT_.out (by kernel_rfl)) (fun _ _ _ h => h) (Or.inl ⟨by rfl, ?_⟩) ?_ ?_
    rotate_left
    ·intro w'
     go_simp
     with_reducible rfl
    rotate_left
    ·simp only [Act.put, List.setIfInBounds_toArray, List.set_cons_zero, List.set_cons_succ, i64_w, i32_w]
     rfl
    refine pure_ (i := 6) (N := some 28) (v := ?_) (a' := ?_) #[true, true, true, true, true, true, true, false, true, false, false] rfl rfl (any_of HT_.out (by kernel_rfl)) (fun _ _ _ h => h) (Or.inl ⟨by rfl, ?_⟩) ?_ ?_
    rotate_left
    ·intro w'
     go_simp
     with_reducible rfl
    rotate_left
    ·simp only [Act.put, List.setIfInBounds_toArray, List.set_cons_zero, List.set_cons_succ, i64_w, i32_w]
     rfl
    refine pure_ (i := 7) (N := some 29) (v := ?_) (a' := ?_) #[true, true, true, true, true, true, true, true, true, false, false] rfl rfl (any_of HT_.out (by kernel_rfl)) (fun _ _ _ h => h) (Or.inl ⟨by rfl, ?_⟩) ?_ ?_
    rotate_left
    ·intro w'
     go_simp
     with_reducible rfl
    rotate_left
    ·simp only [Act.put, List.setIfInBounds_toArray, List.set_cons_zero, List.set_cons_succ, i64_w, i32_w]
     rfl
    exact norm_ (by simp only [putAll, Act.put, List.setIfInBounds_toArray, List.set_cons_zero, List.set_cons_succ]) (hCont (.slice Ao34 t369.length co34, v375, v378, gb381) _ ⟨hHeld, (by (with_reducible repeat (first | apply Kd.R_alloc | apply Kd.R_drewN | apply Kd.R_drew)); exact HO371.out), (by (with_reducible repeat (first | apply Kd.R_alloc | apply Kd.R_drewN | apply Kd.R_drew)); exact HO376.out), (by (with_reducible repeat (first | apply Kd.R_alloc | apply Kd.R_drewN | apply Kd.R_drew)); exact HO379.out), (by (with_reducible repeat (first | refine blk_drewN ?_ _ | refine blk_drew ?_ | refine blk_alloc ?_ _)); exact BK358.out), (by (with_reducible repeat (first | refine blk_drewN ?_ _ | refine blk_drew ?_ | refine blk_alloc ?_ _)); exact BK359.out), (by (with_reducible repeat (first | refine blk_drewN ?_ _ | refine blk_drew ?_ | refine blk_alloc ?_ _)); exact BK364.out), (by (with_reducible repeat (first | refine blk_drewN ?_ _ | refine blk_drew ?_ | refine blk_alloc ?_ _)); exact BK368.out), (by (with_reducible repeat (first | refine blk_drewN ?_ _ | refine blk_drew ?_ | refine blk_alloc ?_ _)); exact BK381.out), GW381.out, GE381.out, NB358_381.out, NB381_358.out, NB359_381.out, NB381_359.out, NB364_381.out, NB381_364.out, NB368_381.out, NB381_368.out, (by repeat (first | (with_reducible first | exact HB.out | apply below_alloc | apply pw_below_drewN | apply below_drew1 | refine below_set ?_ GE358.out | refine below_set ?_ GE359.out | refine below_set ?_ GE364.out | refine below_set ?_ GE368.out | refine below_set ?_ GE381.out) | exact HB.out))⟩)
  ·skip
   refine box_step ?hg (N := 8) ?hd (cs := #[.bool false, .bool false, .slice none 0 0, .slice none 0 0]) (t := 30) ?hr ?_; (case hd => rfl); (case hg => rfl); (case hr => first | (go_simp; done) | (go_simp; rfl))
   intro gb381 hg w32 hbox hb
   have n0_ := Aside0.mk (blk_below (g := gb358) (o := .cells #[.int .u8 a0_0, .int .u8 a0_1, .int .u8 a0_2] 39 (0, 0)) (by (with_reducible repeat (first | refine blk_drewN ?_ _ | refine blk_drew ?_ | refine blk_alloc ?_ _)); exact BK358.out) hb)
   have n1_ := Aside0.mk (blk_below (g := gb359) (o := .cells #[.int .u8 a1_0, .int .u8 a1_1, .int .u8 a1_2] 39 (0, 0)) (by (with_reducible repeat (first | refine blk_drewN ?_ _ | refine blk_drew ?_ | refine blk_alloc ?_ _)); exact BK359.out) hb)
   have n2_ := Aside0.mk (blk_below (g := gb364) (o := .cells #[.int .i64 t361, .int .i64 t362, .int .i64 t363] 23 (0, 0)) (by (with_reducible repeat (first | refine blk_drewN ?_ _ | refine blk_drew ?_ | refine blk_alloc ?_ _)); exact BK364.out) hb)
   have n3_ := Aside0.mk (blk_below (g := gb368) (o := .cells #[.int .i64 t365, .int .i64 t362, .int .i64 t367] 23 (0, 0)) (by (with_reducible repeat (first | refine blk_drewN ?_ _ | refine blk_drew ?_ | refine blk_alloc ?_ _)); exact BK368.out) hb)
   have n4_ := Aside0.mk (below_step (by repeat (first | (with_reducible first | exact HB.out | apply below_alloc | apply pw_below_drewN | apply below_drew1 | refine below_set ?_ GE358.out | refine below_set ?_ GE359.out | refine below_set ?_ GE364.out | refine below_set ?_ GE368.out) | exact HB.out)) hb)
   have n5_ := Aside0.mk (hbox)
   have n6_ := Aside0.mk ((by rw [hg]; exact (below_size (by repeat (first | (with_reducible first | exact HB.out | apply below_alloc | apply pw_below_drewN | apply below_drew1 | refine below_set ?_ GE358.out | refine below_set ?_ GE359.out | refine below_set ?_ GE364.out | refine below_set ?_ GE368.out) | exact HB.out))) : w.heap.size ≤ gb381))
   have n7_ := Aside0.mk ((by rw [hg]; exact (below_size (by repeat (first | (with_reducible first | exact HB.out | apply below_alloc | apply pw_below_drewN | apply below_drew1 | refine below_set ?_ GE358.out | refine below_set ?_ GE359.out | refine below_set ?_ GE364.out | refine below_set ?_ GE368.out) | exact HB.out))) : w.heap.size ≤ gb381))
   have n8_ := Aside0.mk ((by rw [hg]; exact Nat.ne_of_lt (blk_lt (g := gb358) (o := .cells #[.int .u8 a0_0, .int .u8 a0_1, .int .u8 a0_2] 39 (0, 0)) (by (with_reducible repeat (first | refine blk_drewN ?_ _ | refine blk_drew ?_ | refine blk_alloc ?_ _)); exact BK358.out)) : gb358 ≠ gb381))
   have n9_ := Aside0.mk ((by rw [hg]; exact Nat.ne_of_gt (blk_lt (g := gb358) (o := .cells #[.int .u8 a0_0, .int .u8 a0_1, .int .u8 a0_2] 39 (0, 0)) (by (with_reducible repeat (first | refine blk_drewN ?_ _ | refine blk_drew ?_ | refine blk_alloc ?_ _)); exact BK358.out)) : gb381 ≠ gb358))
   have n10_ := Aside0.mk ((by rw [hg]; exact Nat.ne_of_lt (blk_lt (g := gb359) (o := .cells #[.int .u8 a1_0, .int .u8 a1_1, .int .u8 a1_2] 39 (0, 0)) (by (with_reducible repeat (first | refine blk_drewN ?_ _ | refine blk_drew ?_ | refine blk_alloc ?_ _)); exact BK359.out)) : gb359 ≠ gb381))
   have n11_ := Aside0.mk ((by rw [hg]; exact Nat.ne_of_gt (blk_lt (g := gb359) (o := .cells #[.int .u8 a1_0, .int .u8 a1_1, .int .u8 a1_2] 39 (0, 0)) (by (with_reducible repeat (first | refine blk_drewN ?_ _ | refine blk_drew ?_ | refine blk_alloc ?_ _)); exact BK359.out)) : gb381 ≠ gb359))
   have n12_ := Aside0.mk ((by rw [hg]; exact Nat.ne_of_lt (blk_lt (g := gb364) (o := .cells #[.int .i64 t361, .int .i64 t362, .int .i64 t363] 23 (0, 0)) (by (with_reducible repeat (first | refine blk_drewN ?_ _ | refine blk_drew ?_ | refine blk_alloc ?_ _)); exact BK364.out)) : gb364 ≠ gb381))
   have n13_ := Aside0.mk ((by rw [hg]; exact Nat.ne_of_gt (blk_lt (g := gb364) (o := .cells #[.int .i64 t361, .int .i64 t362, .int .i64 t363] 23 (0, 0)) (by (with_reducible repeat (first | refine blk_drewN ?_ _ | refine blk_drew ?_ | refine blk_alloc ?_ _)); exact BK364.out)) : gb381 ≠ gb364))
   have n14_ := Aside0.mk ((by rw [hg]; exact Nat.ne_of_lt (blk_lt (g := gb368) (o := .cells #[.int .i64 t365, .int .i64 t362, .int .i64 t367] 23 (0, 0)) (by (with_reducible repeat (first | refine blk_drewN ?_ _ | refine blk_drew ?_ | refine blk_alloc ?_ _)); exact BK368.out)) : gb368 ≠ gb381))
   have n15_ := Aside0.mk ((by rw [hg]; exact Nat.ne_of_gt (blk_lt (g := gb368) (o := .cells #[.int .i64 t365, .int .i64 t362, .int .i64 t367] 23 (0, 0)) (by (with_reducible repeat (first | refine blk_drewN ?_ _ | refine blk_drew ?_ | refine blk_alloc ?_ _)); exact BK368.out)) : gb381 ≠ gb368))
   clear BK358
   clear BK359
   clear BK364
   clear BK368
   clear HB
   have BK358 := n0_
   have BK359 := n1_
   have BK364 := n2_
   have BK368 := n3_
   have HB := n4_
   have BK381 := n5_
   have GW381 := n6_
   have GE381 := n7_
   have NB358_381 := n8_
   have NB381_358 := n9_
   have NB359_381 := n10_
   have NB381_359 := n11_
   have NB364_381 := n12_
   have NB381_364 := n13_
   have NB368_381 := n14_
   have NB381_368 := n15_
   clear n0_ n1_ n2_ n3_ n4_ n5_ n6_ n7_ n8_ n9_ n10_ n11_ n12_ n13_ n14_ n15_
   clear hb hbox hg
   refine hK.out _ _ ⟨(blk_cell BK364.out 0).trans rfl, (blk_cell BK364.out 1).trans rfl, (blk_cell BK364.out 2).trans rfl, (blk_cell BK368.out 0).trans rfl, (blk_cell BK368.out 1).trans rfl, (blk_cell BK368.out 2).trans rfl⟩ (fun hHeld => ?_)
   clear hK K
   refine norm_ (a' := ?_) ?_ ?_
   rotate_left
   ·show Act.put _ (some 8) _ = _
    simp only [Act.put, List.setIfInBounds_toArray, List.set_cons_zero, List.set_cons_succ, i64_w, i32_w]
    rfl
   refine one_ (i := 2) (N := some 25) #[true, true, true, true, false, false, false, false, true, false, false] rfl rfl (one_of HT_.out (by kernel_rfl)) (by decide) (fun K hK => ?_)
   refine goes_ Tryd.func12 (by kernel_rfl) rfl #[.agg #[.int .i64 t361, .int .i64 t362, .int .i64 t363], .int .u8 15, .int .u8 0] (by rfl) rfl rfl (by (try simp only [List.map_toArray, List.map_cons, List.map_nil]); first | done | rfl | (simp only [List.length_drop, List.length_take]; rfl)) ?_
   with_reducible refine (gambrellaw22_states.calls k t361 t362 t363 15 0 t369 _ A6.out).mono ?_
   rintro e w33 ⟨v370, rfl, ho0, hb⟩
   refine ⟨_, rfl, ?_⟩
   have n0_ := Aside0.mk (Kd.R_lower ho0 (below_size (by repeat (first | (with_reducible first | exact HB.out | apply below_alloc | apply pw_below_drewN | apply below_drew1 | refine below_set ?_ GE358.out | refine below_set ?_ GE359.out | refine below_set ?_ GE364.out | refine below_set ?_ GE368.out | refine below_set ?_ GE381.out) | exact HB.out))))
   have n1_ := Aside0.mk (blk_below (g := gb358) (o := .cells #[.int .u8 a0_0, .int .u8 a0_1, .int .u8 a0_2] 39 (0, 0)) (by (with_reducible repeat (first | refine blk_drewN ?_ _ | refine blk_drew ?_ | refine blk_alloc ?_ _)); exact BK358.out) hb)
   have n2_ := Aside0.mk (blk_below (g := gb359) (o := .cells #[.int .u8 a1_0, .int .u8 a1_1, .int .u8 a1_2] 39 (0, 0)) (by (with_reducible repeat (first | refine blk_drewN ?_ _ | refine blk_drew ?_ | refine blk_alloc ?_ _)); exact BK359.out) hb)
   have n3_ := Aside0.mk (blk_below (g := gb364) (o := .cells #[.int .i64 t361, .int .i64 t362, .int .i64 t363] 23 (0, 0)) (by (with_reducible repeat (first | refine blk_drewN ?_ _ | refine blk_drew ?_ | refine blk_alloc ?_ _)); exact BK364.out) hb)
   have n4_ := Aside0.mk (blk_below (g := gb368) (o := .cells #[.int .i64 t365, .int .i64 t362, .int .i64 t367] 23 (0, 0)) (by (with_reducible repeat (first | refine blk_drewN ?_ _ | refine blk_drew ?_ | refine blk_alloc ?_ _)); exact BK368.out) hb)
   have n5_ := Aside0.mk (blk_below (g := gb381) (o := .cells #[.bool false, .bool false, .slice none 0 0, .slice none 0 0] 30 (0, 0)) (by (with_reducible repeat (first | refine blk_drewN ?_ _ | refine blk_drew ?_ | refine blk_alloc ?_ _)); exact BK381.out) hb)
   have n6_ := Aside0.mk (below_step (by repeat (first | (with_reducible first | exact HB.out | apply below_alloc | apply pw_below_drewN | apply below_drew1 | refine below_set ?_ GE358.out | refine below_set ?_ GE359.out | refine below_set ?_ GE364.out | refine below_set ?_ GE368.out | refine below_set ?_ GE381.out) | exact HB.out)) hb)
   clear BK358
   clear BK359
   clear BK364
   clear BK368
   clear BK381
   clear HB
   have HO371 := n0_
   have BK358 := n1_
   have BK359 := n2_
   have BK364 := n3_
   have BK368 := n4_
   have BK381 := n5_
   have HB := n6_
   clear n0_ n1_ n2_ n3_ n4_ n5_ n6_
   (try clear hb)
   (try clear hb2)
   (try clear hk)
   (try clear hi)
   (try clear ho0)
   obtain ⟨Ao34, co34, eo34⟩ := Kd.R_slice HO371.out
   (first | subst eo34 | (injection eo34 with f1_ f2_ f3_; have f4_ := f1_.symm; have f5_ := f3_.symm; clear f1_ f2_ f3_; subst f4_; subst f5_))
   refine hK.out _ _ ⟨(blk_cell BK364.out 0).trans rfl, (blk_cell BK364.out 1).trans rfl, (blk_cell BK364.out 2).trans rfl, (blk_cell BK368.out 0).trans rfl, (blk_cell BK368.out 1).trans rfl, (blk_cell BK368.out 2).trans rfl⟩ (fun hHeld => ?_)
   clear hK K
   refine norm_ (a' := ?_) ?_ ?_
   rotate_left
   ·show Act.put _ (some 25) _ = _
    simp only [Act.put, List.setIfInBounds_toArray, List.set_cons_zero, List.set_cons_succ, i64_w, i32_w]
    rfl
   refine one_ (i := 4) (N := some 27) #[true, true, true, true, true, false, false, false, true, false, false] rfl rfl (one_of HT_.out (by kernel_rfl)) (by decide) (fun K hK => ?_)
   refine goes_ Tryd.func8 (by kernel_rfl) rfl #[.string (⟨#[97, 98, 99]⟩ : ByteArray), .agg #[.int .i64 t361, .int .i64 t362, .int .i64 t363], .slice Ao34 t369.length co34, .agg #[.int .i64 t365, .int .i64 t362, .int .i64 t367]] (by rfl) rfl rfl (by (try simp only [List.map_toArray, List.map_cons, List.map_nil]); first | done | rfl | (simp only [List.length_drop, List.length_take]; rfl)) ?_
   with_reducible refine (plan_Of.calls k (⟨#[97, 98, 99]⟩ : ByteArray) t361 t362 t363 _ _ t369 t365 t362 t367 t372 t373 t374 t377 t380 _ ?side1 ?side2 A7.out).mono ?_
   (case side1 => repeat (first | exact (Kd.R_reads' HO371.out).2.2 | (with_reducible refine Kd.C_alloc ?_ _) | (with_reducible refine Kd.C_drewN ?_ _) | (with_reducible refine Kd.C_drew ?_)))
   (case side2 => exact (Kd.R_reads' HO371.out).2.1)
   rintro e w35 ⟨v375, v378, rfl, ho0, ho1, hb⟩
   refine ⟨_, rfl, ?_⟩
   have n0_ := Aside0.mk (Kd.R_below (by (with_reducible repeat (first | apply Kd.R_alloc | apply Kd.R_drewN | apply Kd.R_drew)); exact HO371.out) hb)
   have n1_ := Aside0.mk (Kd.R_lower ho0 (below_size (by repeat (first | (with_reducible first | exact HB.out | apply below_alloc | apply pw_below_drewN | apply below_drew1 | refine below_set ?_ GE358.out | refine below_set ?_ GE359.out | refine below_set ?_ GE364.out | refine below_set ?_ GE368.out | refine below_set ?_ GE381.out) | exact HB.out))))
   have n2_ := Aside0.mk (Kd.R_lower ho1 (below_size (by repeat (first | (with_reducible first | exact HB.out | apply below_alloc | apply pw_below_drewN | apply below_drew1 | refine below_set ?_ GE358.out | refine below_set ?_ GE359.out | refine below_set ?_ GE364.out | refine below_set ?_ GE368.out | refine below_set ?_ GE381.out) | exact HB.out))))
   have n3_ := Aside0.mk (blk_below (g := gb358) (o := .cells #[.int .u8 a0_0, .int .u8 a0_1, .int .u8 a0_2] 39 (0, 0)) (by (with_reducible repeat (first | refine blk_drewN ?_ _ | refine blk_drew ?_ | refine blk_alloc ?_ _)); exact BK358.out) hb)
   have n4_ := Aside0.mk (blk_below (g := gb359) (o := .cells #[.int .u8 a1_0, .int .u8 a1_1, .int .u8 a1_2] 39 (0, 0)) (by (with_reducible repeat (first | refine blk_drewN ?_ _ | refine blk_drew ?_ | refine blk_alloc ?_ _)); exact BK359.out) hb)
   have n5_ := Aside0.mk (blk_below (g := gb364) (o := .cells #[.int .i64 t361, .int .i64 t362, .int .i64 t363] 23 (0, 0)) (by (with_reducible repeat (first | refine blk_drewN ?_ _ | refine blk_drew ?_ | refine blk_alloc ?_ _)); exact BK364.out) hb)
   have n6_ := Aside0.mk (blk_below (g := gb368) (o := .cells #[.int .i64 t365, .int .i64 t362, .int .i64 t367] 23 (0, 0)) (by (with_reducible repeat (first | refine blk_drewN ?_ _ | refine blk_drew ?_ | refine blk_alloc ?_ _)); exact BK368.out) hb)
   have n7_ := Aside0.mk (blk_below (g := gb381) (o := .cells #[.bool false, .bool false, .slice none 0 0, .slice none 0 0] 30 (0, 0)) (by (with_reducible repeat (first | refine blk_drewN ?_ _ | refine blk_drew ?_ | refine blk_alloc ?_ _)); exact BK381.out) hb)
   have n8_ := Aside0.mk (below_step (by repeat (first | (with_reducible first | exact HB.out | apply below_alloc | apply pw_below_drewN | apply below_drew1 | refine below_set ?_ GE358.out | refine below_set ?_ GE359.out | refine below_set ?_ GE364.out | refine below_set ?_ GE368.out | refine below_set ?_ GE381.out) | exact HB.out)) hb)
   clear HO371
   clear BK358
   clear BK359
   clear BK364
   clear BK368
   clear BK381
   clear HB
   have HO371 := n0_
   have HO376 := n1_
   have HO379 := n2_
   have BK358 := n3_
   have BK359 := n4_
   have BK364 := n5_
   have BK368 := n6_
   have BK381 := n7_
   have HB := n8_
   clear n0_ n1_ n2_ n3_ n4_ n5_ n6_ n7_ n8_
   (try clear hb)
   (try clear hb2)
   (try clear hk)
   (try clear hi)
   (try clear ho0)
   (try clear ho1)
   refine hK.out _ _ ⟨(blk_cell BK364.out 0).trans rfl, (blk_cell BK364.out 1).trans rfl, (blk_cell BK364.out 2).trans rfl, (blk_cell BK368.out 0).trans rfl, (blk_cell BK368.out 1).trans rfl, (blk_cell BK368.out 2).trans rfl⟩ (fun hHeld => ?_)
   clear hK K
   refine norm_ (a' := ?_) ?_ ?_
   rotate_left
   ·show Act.put _ (some 27) _ = _
    simp only [Act.put, List.setIfInBounds_toArray, List.set_cons_zero, List.set_cons_succ, i64_w, i32_w]
    rfl
   refine pure_ (i := 5) (N := some 22) (v := ?_) (a' := ?_) #[true, true, true, true, true, true, false, false, true, false, false] rfl rfl (any_of HT_.out (by kernel_rfl)) (fun _ _ _ h => h) (Or.inl ⟨by rfl, ?_⟩) ?_ ?_
   rotate_left
   ·intro w'
    go_simp
    with_reducible rfl
   rotate_left
   ·simp only [Act.put, List.setIfInBounds_toArray, List.set_cons_zero, List.set_cons_succ, i64_w, i32_w]
    rfl
   refine pure_ (i := 6) (N := some 28) (v := ?_) (a' := ?_) #[true, true, true, true, true, true, true, false, true, false, false] rfl rfl (any_of HT_.out (by kernel_rfl)) (fun _ _ _ h => h) (Or.inl ⟨by rfl, ?_⟩) ?_ ?_
   rotate_left
   ·intro w'
    go_simp
    with_reducible rfl
   rotate_left
   ·simp only [Act.put, List.setIfInBounds_toArray, List.set_cons_zero, List.set_cons_succ, i64_w, i32_w]
    rfl
   refine pure_ (i := 7) (N := some 29) (v := ?_) (a' := ?_) #[true, true, true, true, true, true, true, true, true, false, false] rfl rfl (any_of HT_.out (by kernel_rfl)) (fun _ _ _ h => h) (Or.inl ⟨by rfl, ?_⟩) ?_ ?_
   rotate_left
   ·intro w'
    go_simp
    with_reducible rfl
   rotate_left
   ·simp only [Act.put, List.setIfInBounds_toArray, List.set_cons_zero, List.set_cons_succ, i64_w, i32_w]
    rfl
   exact norm_ (by simp only [putAll, Act.put, List.setIfInBounds_toArray, List.set_cons_zero, List.set_cons_succ]) (hCont (.slice Ao34 t369.length co34, v375, v378, gb381) _ ⟨hHeld, (by (with_reducible repeat (first | apply Kd.R_alloc | apply Kd.R_drewN | apply Kd.R_drew)); exact HO371.out), (by (with_reducible repeat (first | apply Kd.R_alloc | apply Kd.R_drewN | apply Kd.R_drew)); exact HO376.out), (by (with_reducible repeat (first | apply Kd.R_alloc | apply Kd.R_drewN | apply Kd.R_drew)); exact HO379.out), (by (with_reducible repeat (first | refine blk_drewN ?_ _ | refine blk_drew ?_ | refine blk_alloc ?_ _)); exact BK358.out), (by (with_reducible repeat (first | refine blk_drewN ?_ _ | refine blk_drew ?_ | refine blk_alloc ?_ _)); exact BK359.out), (by (with_reducible repeat (first | refine blk_drewN ?_ _ | refine blk_drew ?_ | refine blk_alloc ?_ _)); exact BK364.out), (by (with_reducible repeat (first | refine blk_drewN ?_ _ | refine blk_drew ?_ | refine blk_alloc ?_ _)); exact BK368.out), (by (with_reducible repeat (first | refine blk_drewN ?_ _ | refine blk_drew ?_ | refine blk_alloc ?_ _)); exact BK381.out), GW381.out, GE381.out, NB358_381.out, NB381_358.out, NB359_381.out, NB381_359.out, NB364_381.out, NB381_364.out, NB368_381.out, NB381_368.out, (by repeat (first | (with_reducible first | exact HB.out | apply below_alloc | apply pw_below_drewN | apply below_drew1 | refine below_set ?_ GE358.out | refine below_set ?_ GE359.out | refine below_set ?_ GE364.out | refine below_set ?_ GE368.out | refine below_set ?_ GE381.out) | exact HB.out))⟩)
 rintro ⟨v370, v375, v378, gb381⟩ w36 ⟨hS_, h0_, h1_, h2_, h3_, h4_, h5_, h6_, h7_, h8_, h9_, h10_, h11_, h12_, h13_, h14_, h15_, h16_, h17_, h18_⟩
 have n0_ : Aside0 (Kd.R (Kd.int .i64) 3 w36 w.heap.size (fun _ => True) v370 t369) := ⟨h0_⟩
 have n1_ : Aside0 (Kd.R Kd.string 9 w36 w.heap.size (fun k_ => some k_ ≠ (v378 : Value).ownBlock) v375 t374) := ⟨h1_⟩
 have n2_ : Aside0 (Kd.R Kd.string 9 w36 w.heap.size (fun k_ => some k_ ≠ (v375 : Value).ownBlock) v378 t377) := ⟨h2_⟩
 have n3_ : Aside0 (w36.heap[gb358]? = some (.cells #[.int .u8 a0_0, .int .u8 a0_1, .int .u8 a0_2] 39 (0, 0))) := ⟨h3_⟩
 have n4_ : Aside0 (w36.heap[gb359]? = some (.cells #[.int .u8 a1_0, .int .u8 a1_1, .int .u8 a1_2] 39 (0, 0))) := ⟨h4_⟩
 have n5_ : Aside0 (w36.heap[gb364]? = some (.cells #[.int .i64 t361, .int .i64 t362, .int .i64 t363] 23 (0, 0))) := ⟨h5_⟩
 have n6_ : Aside0 (w36.heap[gb368]? = some (.cells #[.int .i64 t365, .int .i64 t362, .int .i64 t367] 23 (0, 0))) := ⟨h6_⟩
 have n7_ : Aside0 (w36.heap[gb381]? = some (.cells #[.bool false, .bool false, .slice none 0 0, .slice none 0 0] 30 (0, 0))) := ⟨h7_⟩
 have n8_ : Aside0 (w.heap.size ≤ gb381) := ⟨h8_⟩
 have n9_ : Aside0 (w.heap.size ≤ gb381) := ⟨h9_⟩
 have n10_ : Aside0 (gb358 ≠ gb381) := ⟨h10_⟩
 have n11_ : Aside0 (gb381 ≠ gb358) := ⟨h11_⟩
 have n12_ : Aside0 (gb359 ≠ gb381) := ⟨h12_⟩
 have n13_ : Aside0 (gb381 ≠ gb359) := ⟨h13_⟩
 have n14_ : Aside0 (gb364 ≠ gb381) := ⟨h14_⟩
 have n15_ : Aside0 (gb381 ≠ gb364) := ⟨h15_⟩
 have n16_ : Aside0 (gb368 ≠ gb381) := ⟨h16_⟩
 have n17_ : Aside0 (gb381 ≠ gb368) := ⟨h17_⟩
 have n18_ : Aside0 (Below w.heap.size w w36) := ⟨h18_⟩
 clear BK358
 clear BK359
 clear BK364
 clear BK368
 clear HB
 clear h0_ h1_ h2_ h3_ h4_ h5_ h6_ h7_ h8_ h9_ h10_ h11_ h12_ h13_ h14_ h15_ h16_ h17_ h18_
 have HO371 := n0_
 have HO376 := n1_
 have HO379 := n2_
 have BK358 := n3_
 have BK359 := n4_
 have BK364 := n5_
 have BK368 := n6_
 have BK381 := n7_
 have GW381 := n8_
 have GE381 := n9_
 have NB358_381 := n10_
 have NB381_358 := n11_
 have NB359_381 := n12_
 have NB381_359 := n13_
 have NB364_381 := n14_
 have NB381_364 := n15_
 have NB368_381 := n16_
 have NB381_368 := n17_
 have HB := n18_
 clear n0_ n1_ n2_ n3_ n4_ n5_ n6_ n7_ n8_ n9_ n10_ n11_ n12_ n13_ n14_ n15_ n16_ n17_ n18_
 have hHeld : w36.cell? ⟨gb364, 0, none⟩ = some (.int .i64 t361) ∧ w36.cell? ⟨gb364, 1, none⟩ = some (.int .i64 t362) ∧ w36.cell? ⟨gb364, 2, none⟩ = some (.int .i64 t363) ∧ w36.cell? ⟨gb368, 0, none⟩ = some (.int .i64 t365) ∧ w36.cell? ⟨gb368, 1, none⟩ = some (.int .i64 t362) ∧ w36.cell? ⟨gb368, 2, none⟩ = some (.int .i64 t367) := hS_
 obtain ⟨Ao39, co39, eo39⟩ := Kd.R_slice HO376.out
 (first | subst eo39 | (injection eo39 with f1_ f2_ f3_; have f4_ := f1_.symm; have f5_ := f3_.symm; clear f1_ f2_ f3_; subst f4_; subst f5_))
 obtain ⟨Ao41, co41, eo41⟩ := Kd.R_slice HO379.out
 (first | subst eo41 | (injection eo41 with f1_ f2_ f3_; have f4_ := f1_.symm; have f5_ := f3_.symm; clear f1_ f2_ f3_; subst f4_; subst f5_))
 refine norm_ (a' := ?_) ?_ ?_
 rotate_left
 ·simp only [putAll, Act.put, List.setIfInBounds_toArray, List.set_cons_zero, List.set_cons_succ]
  rfl
 refine one_ (i := 9) (N := none) #[true, true, true, true, true, true, true, true, true, true, false] rfl rfl (one_of HT_.out (by kernel_rfl)) (by decide) (fun K hK => ?_)
 have hs37 : w36.cell? ⟨gb381, 0, none⟩ = some (.bool false) := (blk_cell BK381.out 0).trans rfl
 have hfs37 := blk_frozen BK381.out 0
 have hns37_0 := NB358_381.out
 have hns37_1 := NB359_381.out
 have hns37_2 := NB364_381.out
 have hns37_3 := NB368_381.out
 have hms37_0 := NB381_358.out
 have hms37_1 := NB381_359.out
 have hms37_2 := NB381_364.out
 have hms37_3 := NB381_368.out
 have hs38 : w36.cell? ⟨gb381, 1, none⟩ = some (.bool false) := (blk_cell BK381.out 1).trans rfl
 have hfs38 := blk_frozen BK381.out 1
 have hns38_0 := NB358_381.out
 have hns38_1 := NB359_381.out
 have hns38_2 := NB364_381.out
 have hns38_3 := NB368_381.out
 have hms38_0 := NB381_358.out
 have hms38_1 := NB381_359.out
 have hms38_2 := NB381_364.out
 have hms38_3 := NB381_368.out
 have hs40 : w36.cell? ⟨gb381, 2, none⟩ = some (.slice none 0 0) := (blk_cell BK381.out 2).trans rfl
 have hfs40 := blk_frozen BK381.out 2
 have hns40_0 := NB358_381.out
 have hns40_1 := NB359_381.out
 have hns40_2 := NB364_381.out
 have hns40_3 := NB368_381.out
 have hms40_0 := NB381_358.out
 have hms40_1 := NB381_359.out
 have hms40_2 := NB381_364.out
 have hms40_3 := NB381_368.out
 have hs42 : w36.cell? ⟨gb381, 3, none⟩ = some (.slice none 0 0) := (blk_cell BK381.out 3).trans rfl
 have hfs42 := blk_frozen BK381.out 3
 have hns42_0 := NB358_381.out
 have hns42_1 := NB359_381.out
 have hns42_2 := NB364_381.out
 have hns42_3 := NB368_381.out
 have hms42_0 := NB381_358.out
 have hms42_1 := NB381_359.out
 have hms42_2 := NB381_364.out
 have hms42_3 := NB381_368.out
 refine skip_ (w1 := ?_) (by rfl) rfl ?_ ?_
 rotate_left
 ·go_simp
  rfl
 refine hK.out _ _ ⟨((cell_far (p := ⟨gb381, _, none⟩) NB364_381.out _).trans (((cell_far (p := ⟨gb381, _, none⟩) NB364_381.out _).trans (((cell_far (p := ⟨gb381, _, none⟩) NB364_381.out _).trans (((cell_far (p := ⟨gb381, _, none⟩) NB364_381.out _).trans (hHeld.1)))))))), ((cell_far (p := ⟨gb381, _, none⟩) NB364_381.out _).trans (((cell_far (p := ⟨gb381, _, none⟩) NB364_381.out _).trans (((cell_far (p := ⟨gb381, _, none⟩) NB364_381.out _).trans (((cell_far (p := ⟨gb381, _, none⟩) NB364_381.out _).trans (hHeld.2.1)))))))), ((cell_far (p := ⟨gb381, _, none⟩) NB364_381.out _).trans (((cell_far (p := ⟨gb381, _, none⟩) NB364_381.out _).trans (((cell_far (p := ⟨gb381, _, none⟩) NB364_381.out _).trans (((cell_far (p := ⟨gb381, _, none⟩) NB364_381.out _).trans (hHeld.2.2.1)))))))), ((cell_far (p := ⟨gb381, _, none⟩) NB368_381.out _).trans (((cell_far (p := ⟨gb381, _, none⟩) NB368_381.out _).trans (((cell_far (p := ⟨gb381, _, none⟩) NB368_381.out _).trans (((cell_far (p := ⟨gb381, _, none⟩) NB368_381.out _).trans (hHeld.2.2.2.1)))))))), ((cell_far (p := ⟨gb381, _, none⟩) NB368_381.out _).trans (((cell_far (p := ⟨gb381, _, none⟩) NB368_381.out _).trans (((cell_far (p := ⟨gb381, _, none⟩) NB368_381.out _).trans (((cell_far (p := ⟨gb381, _, none⟩) NB368_381.out _).trans (hHeld.2.2.2.2.1)))))))), ((cell_far (p := ⟨gb381, _, none⟩) NB368_381.out _).trans (((cell_far (p := ⟨gb381, _, none⟩) NB368_381.out _).trans (((cell_far (p := ⟨gb381, _, none⟩) NB368_381.out _).trans (((cell_far (p := ⟨gb381, _, none⟩) NB368_381.out _).trans (hHeld.2.2.2.2.2))))))))⟩ (fun hHeld => ?_)
 clear hK K
 refine pure_ (i := 10) (N := some 9) (v := ?_) (a' := ?_) #[true, true, true, true, true, true, true, true, true, true, true] rfl rfl (any_of HT_.out (by kernel_rfl)) (fun _ _ _ h => h) (Or.inl ⟨by rfl, ?_⟩) ?_ ?_
 rotate_left
 ·intro w'
  go_simp
  with_reducible rfl
 rotate_left
 ·simp only [Act.put, List.setIfInBounds_toArray, List.set_cons_zero, List.set_cons_succ, i64_w, i32_w]
  rfl
 refine done_ (done_of HT_.out (by kernel_rfl)) ?_
 try go_wp2
 have n0_ : Aside0 (Kd.R (Kd.int .i64) 3 ((((w36.setCell ⟨gb381, 0, none⟩ (.bool t372)).setCell ⟨gb381, 1, none⟩ (.bool t373)).setCell ⟨gb381, 2, none⟩ (.slice Ao39 t374.length co39)).setCell ⟨gb381, 3, none⟩ (.slice Ao41 t377.length co41)) w.heap.size (fun _ => True) v370 t369) := ⟨by (with_reducible repeat (first | apply Kd.R_alloc | apply Kd.R_drewN | apply Kd.R_drew)); exact Kd.R_mono (Kd.R_far (p := ⟨gb381, 3, none⟩) (Kd.R_far (p := ⟨gb381, 2, none⟩) (Kd.R_far (p := ⟨gb381, 1, none⟩) (Kd.R_far (p := ⟨gb381, 0, none⟩) (Kd.R_types HO371.out BK381.out (by decide)) (fun _ hk => hk.2) (.bool t372)) (fun _ hk => hk.2) (.bool t373)) (fun _ hk => hk.2) (.slice Ao39 t374.length co39)) (fun _ hk => hk.2) (.slice Ao41 t377.length co41)) (fun _ hk => trivial)⟩
 have n1_ : Aside0 (Kd.R Kd.string 9 ((((w36.setCell ⟨gb381, 0, none⟩ (.bool t372)).setCell ⟨gb381, 1, none⟩ (.bool t373)).setCell ⟨gb381, 2, none⟩ (.slice Ao39 t374.length co39)).setCell ⟨gb381, 3, none⟩ (.slice Ao41 t377.length co41)) w.heap.size (fun k_ => some k_ ≠ (.slice Ao41 t377.length co41 : Value).ownBlock) (.slice Ao39 t374.length co39) t374) := ⟨by (with_reducible repeat (first | apply Kd.R_alloc | apply Kd.R_drewN | apply Kd.R_drew)); exact Kd.R_mono (Kd.R_far (p := ⟨gb381, 3, none⟩) (Kd.R_far (p := ⟨gb381, 2, none⟩) (Kd.R_far (p := ⟨gb381, 1, none⟩) (Kd.R_far (p := ⟨gb381, 0, none⟩) (Kd.R_types HO376.out BK381.out (by decide)) (fun _ hk => hk.2) (.bool t372)) (fun _ hk => hk.2) (.bool t373)) (fun _ hk => hk.2) (.slice Ao39 t374.length co39)) (fun _ hk => hk.2) (.slice Ao41 t377.length co41)) (fun _ hk => hk.1)⟩
 have n2_ : Aside0 (Kd.R Kd.string 9 ((((w36.setCell ⟨gb381, 0, none⟩ (.bool t372)).setCell ⟨gb381, 1, none⟩ (.bool t373)).setCell ⟨gb381, 2, none⟩ (.slice Ao39 t374.length co39)).setCell ⟨gb381, 3, none⟩ (.slice Ao41 t377.length co41)) w.heap.size (fun k_ => some k_ ≠ (.slice Ao39 t374.length co39 : Value).ownBlock) (.slice Ao41 t377.length co41) t377) := ⟨by (with_reducible repeat (first | apply Kd.R_alloc | apply Kd.R_drewN | apply Kd.R_drew)); exact Kd.R_mono (Kd.R_far (p := ⟨gb381, 3, none⟩) (Kd.R_far (p := ⟨gb381, 2, none⟩) (Kd.R_far (p := ⟨gb381, 1, none⟩) (Kd.R_far (p := ⟨gb381, 0, none⟩) (Kd.R_types HO379.out BK381.out (by decide)) (fun _ hk => hk.2) (.bool t372)) (fun _ hk => hk.2) (.bool t373)) (fun _ hk => hk.2) (.slice Ao39 t374.length co39)) (fun _ hk => hk.2) (.slice Ao41 t377.length co41)) (fun _ hk => hk.1)⟩
 have n3_ : Aside0 (((((w36.setCell ⟨gb381, 0, none⟩ (.bool t372)).setCell ⟨gb381, 1, none⟩ (.bool t373)).setCell ⟨gb381, 2, none⟩ (.slice Ao39 t374.length co39)).setCell ⟨gb381, 3, none⟩ (.slice Ao41 t377.length co41)).heap[gb358]? = some (.cells #[.int .u8 a0_0, .int .u8 a0_1, .int .u8 a0_2] 39 (0, 0))) := ⟨by (with_reducible repeat (first | refine blk_drewN ?_ _ | refine blk_drew ?_ | refine blk_alloc ?_ _)); refine blk_far ?_ NB358_381.out _; (with_reducible repeat (first | refine blk_drewN ?_ _ | refine blk_drew ?_ | refine blk_alloc ?_ _)); refine blk_far ?_ NB358_381.out _; (with_reducible repeat (first | refine blk_drewN ?_ _ | refine blk_drew ?_ | refine blk_alloc ?_ _)); refine blk_far ?_ NB358_381.out _; (with_reducible repeat (first | refine blk_drewN ?_ _ | refine blk_drew ?_ | refine blk_alloc ?_ _)); refine blk_far ?_ NB358_381.out _; (with_reducible repeat (first | refine blk_drewN ?_ _ | refine blk_drew ?_ | refine blk_alloc ?_ _)); exact BK358.out⟩
 have n4_ : Aside0 (((((w36.setCell ⟨gb381, 0, none⟩ (.bool t372)).setCell ⟨gb381, 1, none⟩ (.bool t373)).setCell ⟨gb381, 2, none⟩ (.slice Ao39 t374.length co39)).setCell ⟨gb381, 3, none⟩ (.slice Ao41 t377.length co41)).heap[gb359]? = some (.cells #[.int .u8 a1_0, .int .u8 a1_1, .int .u8 a1_2] 39 (0, 0))) := ⟨by (with_reducible repeat (first | refine blk_drewN ?_ _ | refine blk_drew ?_ | refine blk_alloc ?_ _)); refine blk_far ?_ NB359_381.out _; (with_reducible repeat (first | refine blk_drewN ?_ _ | refine blk_drew ?_ | refine blk_alloc ?_ _)); refine blk_far ?_ NB359_381.out _; (with_reducible repeat (first | refine blk_drewN ?_ _ | refine blk_drew ?_ | refine blk_alloc ?_ _)); refine blk_far ?_ NB359_381.out _; (with_reducible repeat (first | refine blk_drewN ?_ _ | refine blk_drew ?_ | refine blk_alloc ?_ _)); refine blk_far ?_ NB359_381.out _; (with_reducible repeat (first | refine blk_drewN ?_ _ | refine blk_drew ?_ | refine blk_alloc ?_ _)); exact BK359.out⟩
 have n5_ : Aside0 (((((w36.setCell ⟨gb381, 0, none⟩ (.bool t372)).setCell ⟨gb381, 1, none⟩ (.bool t373)).setCell ⟨gb381, 2, none⟩ (.slice Ao39 t374.length co39)).setCell ⟨gb381, 3, none⟩ (.slice Ao41 t377.length co41)).heap[gb364]? = some (.cells #[.int .i64 t361, .int .i64 t362, .int .i64 t363] 23 (0, 0))) := ⟨by (with_reducible repeat (first | refine blk_drewN ?_ _ | refine blk_drew ?_ | refine blk_alloc ?_ _)); refine blk_far ?_ NB364_381.out _; (with_reducible repeat (first | refine blk_drewN ?_ _ | refine blk_drew ?_ | refine blk_alloc ?_ _)); refine blk_far ?_ NB364_381.out _; (with_reducible repeat (first | refine blk_drewN ?_ _ | refine blk_drew ?_ | refine blk_alloc ?_ _)); refine blk_far ?_ NB364_381.out _; (with_reducible repeat (first | refine blk_drewN ?_ _ | refine blk_drew ?_ | refine blk_alloc ?_ _)); refine blk_far ?_ NB364_381.out _; (with_reducible repeat (first | refine blk_drewN ?_ _ | refine blk_drew ?_ | refine blk_alloc ?_ _)); exact BK364.out⟩
 have n6_ : Aside0 (((((w36.setCell ⟨gb381, 0, none⟩ (.bool t372)).setCell ⟨gb381, 1, none⟩ (.bool t373)).setCell ⟨gb381, 2, none⟩ (.slice Ao39 t374.length co39)).setCell ⟨gb381, 3, none⟩ (.slice Ao41 t377.length co41)).heap[gb368]? = some (.cells #[.int .i64 t365, .int .i64 t362, .int .i64 t367] 23 (0, 0))) := ⟨by (with_reducible repeat (first | refine blk_drewN ?_ _ | refine blk_drew ?_ | refine blk_alloc ?_ _)); refine blk_far ?_ NB368_381.out _; (with_reducible repeat (first | refine blk_drewN ?_ _ | refine blk_drew ?_ | refine blk_alloc ?_ _)); refine blk_far ?_ NB368_381.out _; (with_reducible repeat (first | refine blk_drewN ?_ _ | refine blk_drew ?_ | refine blk_alloc ?_ _)); refine blk_far ?_ NB368_381.out _; (with_reducible repeat (first | refine blk_drewN ?_ _ | refine blk_drew ?_ | refine blk_alloc ?_ _)); refine blk_far ?_ NB368_381.out _; (with_reducible repeat (first | refine blk_drewN ?_ _ | refine blk_drew ?_ | refine blk_alloc ?_ _)); exact BK368.out⟩
 have n7_ : Aside0 (((((w36.setCell ⟨gb381, 0, none⟩ (.bool t372)).setCell ⟨gb381, 1, none⟩ (.bool t373)).setCell ⟨gb381, 2, none⟩ (.slice Ao39 t374.length co39)).setCell ⟨gb381, 3, none⟩ (.slice Ao41 t377.length co41)).heap[gb381]? = some (.cells #[.bool t372, .bool t373, .slice Ao39 t374.length co39, .slice Ao41 t377.length co41] 30 (0, 0))) := ⟨by (with_reducible repeat (first | refine blk_drewN ?_ _ | refine blk_drew ?_ | refine blk_alloc ?_ _)); refine blk_put (cs := #[.bool t372, .bool t373, .slice Ao39 t374.length co39, .slice none 0 0]) ?_ 3 _ rfl; (with_reducible repeat (first | refine blk_drewN ?_ _ | refine blk_drew ?_ | refine blk_alloc ?_ _)); refine blk_put (cs := #[.bool t372, .bool t373, .slice none 0 0, .slice none 0 0]) ?_ 2 _ rfl; (with_reducible repeat (first | refine blk_drewN ?_ _ | refine blk_drew ?_ | refine blk_alloc ?_ _)); refine blk_put (cs := #[.bool t372, .bool false, .slice none 0 0, .slice none 0 0]) ?_ 1 _ rfl; (with_reducible repeat (first | refine blk_drewN ?_ _ | refine blk_drew ?_ | refine blk_alloc ?_ _)); refine blk_put (cs := #[.bool false, .bool false, .slice none 0 0, .slice none 0 0]) ?_ 0 _ rfl; (with_reducible repeat (first | refine blk_drewN ?_ _ | refine blk_drew ?_ | refine blk_alloc ?_ _)); exact BK381.out⟩
 have n8_ : Aside0 (Below w.heap.size w ((((w36.setCell ⟨gb381, 0, none⟩ (.bool t372)).setCell ⟨gb381, 1, none⟩ (.bool t373)).setCell ⟨gb381, 2, none⟩ (.slice Ao39 t374.length co39)).setCell ⟨gb381, 3, none⟩ (.slice Ao41 t377.length co41))) := ⟨by repeat (first | (with_reducible first | exact HB.out | apply below_alloc | apply pw_below_drewN | apply below_drew1 | refine below_set ?_ GE358.out | refine below_set ?_ GE359.out | refine below_set ?_ GE364.out | refine below_set ?_ GE368.out | refine below_set ?_ GE381.out) | exact HB.out)⟩
 (try clear HO371)
 (try clear HO376)
 (try clear HO379)
 (try clear BK358)
 (try clear BK359)
 (try clear BK364)
 (try clear BK368)
 (try clear BK381)
 (try clear HB)
 generalize ((((w36.setCell ⟨gb381, 0, none⟩ (.bool t372)).setCell ⟨gb381, 1, none⟩ (.bool t373)).setCell ⟨gb381, 2, none⟩ (.slice Ao39 t374.length co39)).setCell ⟨gb381, 3, none⟩ (.slice Ao41 t377.length co41)) = w43 at n0_ n1_ n2_ n3_ n4_ n5_ n6_ n7_ n8_ ⊢
 have HO371 := n0_
 have HO376 := n1_
 have HO379 := n2_
 have BK358 := n3_
 have BK359 := n4_
 have BK364 := n5_
 have BK368 := n6_
 have BK381 := n7_
 have HB := n8_
 clear n0_ n1_ n2_ n3_ n4_ n5_ n6_ n7_ n8_
 have n0_ := Aside0.mk (Kd.R_drew HO371.out)
 have n1_ := Aside0.mk (Kd.R_drew HO376.out)
 have n2_ := Aside0.mk (Kd.R_drew HO379.out)
 have n3_ := Aside0.mk (blk_drew BK358.out)
 have n4_ := Aside0.mk (blk_drew BK359.out)
 have n5_ := Aside0.mk (blk_drew BK364.out)
 have n6_ := Aside0.mk (blk_drew BK368.out)
 have n7_ := Aside0.mk (blk_drew BK381.out)
 have n8_ := Aside0.mk (below_drew1 HB.out)
 clear HO371
 clear HO376
 clear HO379
 clear BK358
 clear BK359
 clear BK364
 clear BK368
 clear BK381
 clear HB
 have HO371 := n0_
 have HO376 := n1_
 have HO379 := n2_
 have BK358 := n3_
 have BK359 := n4_
 have BK364 := n5_
 have BK368 := n6_
 have BK381 := n7_
 have HB := n8_
 clear n0_ n1_ n2_ n3_ n4_ n5_ n6_ n7_ n8_
 refine start_ (n := 11) (S := fun w' => w'.cell? ⟨gb364, 0, none⟩ = some (.int .i64 t361) ∧ w'.cell? ⟨gb364, 1, none⟩ = some (.int .i64 t362) ∧ w'.cell? ⟨gb364, 2, none⟩ = some (.int .i64 t363)) (ds := []) #[false, false, false, false, false, false, false, false, false, false, false] (by kernel_rfl) rfl rfl ⟨(blk_cell BK364.out 0).trans rfl, (blk_cell BK364.out 1).trans rfl, (blk_cell BK364.out 2).trans rfl⟩ (fun hHeld => ?_); refine with_tabW gambrellaw22_PlanParity.tab6 gambrellaw22_PlanParity.bits6 (fun HT_ HW_ => ?_)
 generalize w43.drew = w44 at HO371 HO376 HO379 BK358 BK359 BK364 BK368 BK381 HB hHeld ⊢
 refine take_ (i := 0) (N := some 31) (v := ?_) (a' := ?_) #[true, false, false, false, false, false, false, false, false, false, false] rfl rfl (take_ofW HT_.out HW_.out (by kernel_rfl)) (fun _ _ _ h => h) (Or.inl ⟨by rfl, ?_⟩) hHeld ?_ ?_
 rotate_left
 ·rintro w' ⟨s0, s1, s2⟩
  go_simp
  with_reducible rfl
 rotate_left
 ·simp only [Act.put, List.setIfInBounds_toArray, List.set_cons_zero, List.set_cons_succ, i64_w, i32_w]
  rfl
 refine take_ (i := 1) (N := some 32) (v := ?_) (a' := ?_) #[true, true, false, false, false, false, false, false, false, false, false] rfl rfl (take_ofW HT_.out HW_.out (by kernel_rfl)) (fun _ _ _ h => h) (Or.inl ⟨by rfl, ?_⟩) hHeld ?_ ?_
 rotate_left
 ·rintro w' ⟨s0, s1, s2⟩
  go_simp
  with_reducible rfl
 rotate_left
 ·simp only [Act.put, List.setIfInBounds_toArray, List.set_cons_zero, List.set_cons_succ, i64_w, i32_w]
  rfl
 refine take_ (i := 3) (N := some 34) (v := ?_) (a' := ?_) #[true, true, false, true, false, false, false, false, false, false, false] rfl rfl (take_ofW HT_.out HW_.out (by kernel_rfl)) (fun _ _ _ h => h) (Or.inl ⟨by rfl, ?_⟩) hHeld ?_ ?_
 rotate_left
 ·rintro w' ⟨s0, s1, s2⟩
  go_simp
  with_reducible rfl
 rotate_left
 ·simp only [Act.put, List.setIfInBounds_toArray, List.set_cons_zero, List.set_cons_succ, i64_w, i32_w]
  rfl
 refine join_ (σ := Value × Value × Value × Nat) 2 #[true, true, true, true, true, true, true, true, true, false, false] (fun s_ => [(33, s_.1), (35, .tuple #[.agg #[.bool t385, .bool t386, s_.2.1, s_.2.2.1], .int .i64 t393]), (10, .pointer (some ⟨s_.2.2.2, 0, none⟩)), (30, .tuple #[.agg #[.bool t385, .bool t386, s_.2.1, s_.2.2.1], .int .i64 t393]), (36, .agg #[.bool t385, .bool t386, s_.2.1, s_.2.2.1]), (37, .int .i64 t393)]) (fun s_ w' => (w'.cell? ⟨gb364, 0, none⟩ = some (.int .i64 t361) ∧ w'.cell? ⟨gb364, 1, none⟩ = some (.int .i64 t362) ∧ w'.cell? ⟨gb364, 2, none⟩ = some (.int .i64 t363)) ∧ (Kd.R (Kd.int .i64) 3 w' w.heap.size (fun k_ => some k_ ≠ (s_.1 : Value).ownBlock) v370 t369) ∧ (Kd.R Kd.string 9 w' w.heap.size (fun k_ => some k_ ≠ (.slice Ao41 t377.length co41 : Value).ownBlock ∧ some k_ ≠ (s_.2.1 : Value).ownBlock ∧ some k_ ≠ (s_.2.2.1 : Value).ownBlock) (.slice Ao39 t374.length co39) t374) ∧ (Kd.R Kd.string 9 w' w.heap.size (fun k_ => some k_ ≠ (.slice Ao39 t374.length co39 : Value).ownBlock ∧ some k_ ≠ (s_.2.1 : Value).ownBlock ∧ some k_ ≠ (s_.2.2.1 : Value).ownBlock) (.slice Ao41 t377.length co41) t377) ∧ (Kd.R (Kd.int .i64) 3 w' w.heap.size (fun k_ => some k_ ≠ (v370 : Value).ownBlock) s_.1 t382) ∧ (Kd.R Kd.string 9 w' w.heap.size (fun k_ => some k_ ≠ (.slice Ao39 t374.length co39 : Value).ownBlock ∧ some k_ ≠ (.slice Ao41 t377.length co41 : Value).ownBlock ∧ some k_ ≠ (s_.2.2.1 : Value).ownBlock) s_.2.1 t387) ∧ (Kd.R Kd.string 9 w' w.heap.size (fun k_ => some k_ ≠ (.slice Ao39 t374.length co39 : Value).ownBlock ∧ some k_ ≠ (.slice Ao41 t377.length co41 : Value).ownBlock ∧ some k_ ≠ (s_.2.1 : Value).ownBlock) s_.2.2.1 t390) ∧ (w'.heap[gb358]? = some (.cells #[.int .u8 a0_0, .int .u8 a0_1, .int .u8 a0_2] 39 (0, 0))) ∧ (w'.heap[gb359]? = some (.cells #[.int .u8 a1_0, .int .u8 a1_1, .int .u8 a1_2] 39 (0, 0))) ∧ (w'.heap[gb364]? = some (.cells #[.int .i64 t361, .int .i64 t362, .int .i64 t363] 23 (0, 0))) ∧ (w'.heap[gb368]? = some (.cells #[.int .i64 t365, .int .i64 t362, .int .i64 t367] 23 (0, 0))) ∧ (w'.heap[gb381]? = some (.cells #[.bool t372, .bool t373, .slice Ao39 t374.length co39, .slice Ao41 t377.length co41] 30 (0, 0))) ∧ (w'.heap[s_.2.2.2]? = some (.cells #[.bool false, .bool false, .slice none 0 0, .slice none 0 0] 30 (0, 0))) ∧ (w.heap.size ≤ s_.2.2.2) ∧ (w.heap.size ≤ s_.2.2.2) ∧ (gb358 ≠ s_.2.2.2) ∧ (s_.2.2.2 ≠ gb358) ∧ (gb359 ≠ s_.2.2.2) ∧ (s_.2.2.2 ≠ gb359) ∧ (gb364 ≠ s_.2.2.2) ∧ (s_.2.2.2 ≠ gb364) ∧ (gb368 ≠ s_.2.2.2) ∧ (s_.2.2.2 ≠ gb368) ∧ (gb381 ≠ s_.2.2.2) ∧ (s_.2.2.2 ≠ gb381) ∧ (Below w.heap.size w w')) ?_ ?_
 rotate_left
 ·intro hCont
  refine two_ (i := 2) (j := 8) (Ni := some 33) (Nj := some 10) #[true, true, true, true, false, false, false, false, false, false, false] #[true, true, false, true, false, false, false, false, true, false, false] rfl rfl rfl rfl (two_of HT_.out (by kernel_rfl)) (by decide) (by decide) (fun K hK => ?_) (fun K hK => ?_)
  ·skip
   refine goes_ Tryd.func12 (by kernel_rfl) rfl #[.agg #[.int .i64 t361, .int .i64 t362, .int .i64 t363], .int .u8 15, .int .u8 0] (by rfl) rfl rfl (by (try simp only [List.map_toArray, List.map_cons, List.map_nil]); first | done | rfl | (simp only [List.length_drop, List.length_take]; rfl)) ?_
   with_reducible refine (gambrellaw22_states.calls k t361 t362 t363 15 0 t382 _ A8.out).mono ?_
   rintro e w45 ⟨v383, rfl, ho0, hb⟩
   refine ⟨_, rfl, ?_⟩
   have n0_ := Aside0.mk (Kd.R_elder' (by (with_reducible repeat (first | apply Kd.R_alloc | apply Kd.R_drewN | apply Kd.R_drew)); exact HO371.out) (Kd.R_base ho0) hb)
   have n1_ := Aside0.mk (Kd.R_below (by (with_reducible repeat (first | apply Kd.R_alloc | apply Kd.R_drewN | apply Kd.R_drew)); exact HO376.out) hb)
   have n2_ := Aside0.mk (Kd.R_below (by (with_reducible repeat (first | apply Kd.R_alloc | apply Kd.R_drewN | apply Kd.R_drew)); exact HO379.out) hb)
   have n3_ := Aside0.mk (Kd.R_lower (Kd.R_new' ho0 (Kd.R_lt (by (with_reducible repeat (first | apply Kd.R_alloc | apply Kd.R_drewN | apply Kd.R_drew)); exact HO371.out))) (below_size (by repeat (first | (with_reducible first | exact HB.out | apply below_alloc | apply pw_below_drewN | apply below_drew1 | refine below_set ?_ GE358.out | refine below_set ?_ GE359.out | refine below_set ?_ GE364.out | refine below_set ?_ GE368.out | refine below_set ?_ GE381.out) | exact HB.out))))
   have n4_ := Aside0.mk (blk_below (g := gb358) (o := .cells #[.int .u8 a0_0, .int .u8 a0_1, .int .u8 a0_2] 39 (0, 0)) (by (with_reducible repeat (first | refine blk_drewN ?_ _ | refine blk_drew ?_ | refine blk_alloc ?_ _)); exact BK358.out) hb)
   have n5_ := Aside0.mk (blk_below (g := gb359) (o := .cells #[.int .u8 a1_0, .int .u8 a1_1, .int .u8 a1_2] 39 (0, 0)) (by (with_reducible repeat (first | refine blk_drewN ?_ _ | refine blk_drew ?_ | refine blk_alloc ?_ _)); exact BK359.out) hb)
   have n6_ := Aside0.mk (blk_below (g := gb364) (o := .cells #[.int .i64 t361, .int .i64 t362, .int .i64 t363] 23 (0, 0)) (by (with_reducible repeat (first | refine blk_drewN ?_ _ | refine blk_drew ?_ | refine blk_alloc ?_ _)); exact BK364.out) hb)
   have n7_ := Aside0.mk (blk_below (g := gb368) (o := .cells #[.int .i64 t365, .int .i64 t362, .int .i64 t367] 23 (0, 0)) (by (with_reducible repeat (first | refine blk_drewN ?_ _ | refine blk_drew ?_ | refine blk_alloc ?_ _)); exact BK368.out) hb)
   have n8_ := Aside0.mk (blk_below (g := gb381) (o := .cells #[.bool t372, .bool t373, .slice Ao39 t374.length co39, .slice Ao41 t377.length co41] 30 (0, 0)) (by (with_reducible repeat (first | refine blk_drewN ?_ _ | refine blk_drew ?_ | refine blk_alloc ?_ _)); exact BK381.out) hb)
   have n9_ := Aside0.mk (below_step (by repeat (first | (with_reducible first | exact HB.out | apply below_alloc | apply pw_below_drewN | apply below_drew1 | refine below_set ?_ GE358.out | refine below_set ?_ GE359.out | refine below_set ?_ GE364.out | refine below_set ?_ GE368.out | refine below_set ?_ GE381.out) | exact HB.out)) hb)
   clear HO371
   clear HO376
   clear HO379
   clear BK358
   clear BK359
   clear BK364
   clear BK368
   clear BK381
   clear HB
   have HO371 := n0_
   have HO376 := n1_
   have HO379 := n2_
   have HO384 := n3_
   have BK358 := n4_
   have BK359 := n5_
   have BK364 := n6_
   have BK368 := n7_
   have BK381 := n8_
   have HB := n9_
   clear n0_ n1_ n2_ n3_ n4_ n5_ n6_ n7_ n8_ n9_
   (try clear hb)
   (try clear hb2)
   (try clear hk)
   (try clear hi)
   (try clear ho0)
   obtain ⟨Ao46, co46, eo46⟩ := Kd.R_slice HO384.out
   (first | subst eo46 | (injection eo46 with f1_ f2_ f3_; have f4_ := f1_.symm; have f5_ := f3_.symm; clear f1_ f2_ f3_; subst f4_; subst f5_))
   refine hK.out _ _ ⟨(blk_cell BK364.out 0).trans rfl, (blk_cell BK364.out 1).trans rfl, (blk_cell BK364.out 2).trans rfl⟩ (fun hHeld => ?_)
   clear hK K
   refine norm_ (a' := ?_) ?_ ?_
   rotate_left
   ·show Act.put _ (some 33) _ = _
    simp only [Act.put, List.setIfInBounds_toArray, List.set_cons_zero, List.set_cons_succ, i64_w, i32_w]
    rfl
   refine two_ (i := 4) (j := 8) (Ni := some 35) (Nj := some 10) #[true, true, true, true, true, false, false, false, false, false, false] #[true, true, true, true, false, false, false, false, true, false, false] rfl rfl rfl rfl (two_of HT_.out (by kernel_rfl)) (by decide) (by decide) (fun K hK => ?_) (fun K hK => ?_)
   ·skip
    refine goes_ Tryd.func8 (by kernel_rfl) rfl #[.string (⟨#[97, 98, 99]⟩ : ByteArray), .agg #[.int .i64 t361, .int .i64 t362, .int .i64 t363], .slice Ao46 t382.length co46, .agg #[.int .i64 t361, .int .i64 t362, .int .i64 t363]] (by rfl) rfl rfl (by (try simp only [List.map_toArray, List.map_cons, List.map_nil]); first | done | rfl | (simp only [List.length_drop, List.length_take]; rfl)) ?_
    with_reducible refine (plan_Of.calls k (⟨#[97, 98, 99]⟩ : ByteArray) t361 t362 t363 _ _ t382 t361 t362 t363 t385 t386 t387 t390 t393 _ ?side1 ?side2 A9.out).mono ?_
    (case side1 => repeat (first | exact (Kd.R_reads' HO384.out).2.2 | (with_reducible refine Kd.C_alloc ?_ _) | (with_reducible refine Kd.C_drewN ?_ _) | (with_reducible refine Kd.C_drew ?_)))
    (case side2 => exact (Kd.R_reads' HO384.out).2.1)
    rintro e w47 ⟨v388, v391, rfl, ho0, ho1, hb⟩
    refine ⟨_, rfl, ?_⟩
    have n0_ := Aside0.mk (Kd.R_below (by (with_reducible repeat (first | apply Kd.R_alloc | apply Kd.R_drewN | apply Kd.R_drew)); exact HO371.out) hb)
    have n1_ := Aside0.mk (Kd.R_mono (Kd.R_told (Kd.R_told (Kd.R_old (by (with_reducible repeat (first | apply Kd.R_alloc | apply Kd.R_drewN | apply Kd.R_drew)); exact HO376.out) hb) (Kd.R_base ho0)) (Kd.R_base ho1)) (fun _ h_ => h_.1))
    have n2_ := Aside0.mk (Kd.R_mono (Kd.R_told (Kd.R_told (Kd.R_old (by (with_reducible repeat (first | apply Kd.R_alloc | apply Kd.R_drewN | apply Kd.R_drew)); exact HO379.out) hb) (Kd.R_base ho0)) (Kd.R_base ho1)) (fun _ h_ => h_.1))
    have n3_ := Aside0.mk (Kd.R_below (by (with_reducible repeat (first | apply Kd.R_alloc | apply Kd.R_drewN | apply Kd.R_drew)); exact HO384.out) hb)
    have n4_ := Aside0.mk (Kd.R_lower (Kd.R_new' (Kd.R_new' ho0 (Kd.R_lt (by (with_reducible repeat (first | apply Kd.R_alloc | apply Kd.R_drewN | apply Kd.R_drew)); exact HO376.out))) (Kd.R_lt (by (with_reducible repeat (first | apply Kd.R_alloc | apply Kd.R_drewN | apply Kd.R_drew)); exact HO379.out))) (below_size (by repeat (first | (with_reducible first | exact HB.out | apply below_alloc | apply pw_below_drewN | apply below_drew1 | refine below_set ?_ GE358.out | refine below_set ?_ GE359.out | refine below_set ?_ GE364.out | refine below_set ?_ GE368.out | refine below_set ?_ GE381.out) | exact HB.out))))
    have n5_ := Aside0.mk (Kd.R_lower (Kd.R_new' (Kd.R_new' ho1 (Kd.R_lt (by (with_reducible repeat (first | apply Kd.R_alloc | apply Kd.R_drewN | apply Kd.R_drew)); exact HO376.out))) (Kd.R_lt (by (with_reducible repeat (first | apply Kd.R_alloc | apply Kd.R_drewN | apply Kd.R_drew)); exact HO379.out))) (below_size (by repeat (first | (with_reducible first | exact HB.out | apply below_alloc | apply pw_below_drewN | apply below_drew1 | refine below_set ?_ GE358.out | refine below_set ?_ GE359.out | refine below_set ?_ GE364.out | refine below_set ?_ GE368.out | refine below_set ?_ GE381.out) | exact HB.out))))
    have n6_ := Aside0.mk (blk_below (g := gb358) (o := .cells #[.int .u8 a0_0, .int .u8 a0_1, .int .u8 a0_2] 39 (0, 0)) (by (with_reducible repeat (first | refine blk_drewN ?_ _ | refine blk_drew ?_ | refine blk_alloc ?_ _)); exact BK358.out) hb)
    have n7_ := Aside0.mk (blk_below (g := gb359) (o := .cells #[.int .u8 a1_0, .int .u8 a1_1, .int .u8 a1_2] 39 (0, 0)) (by (with_reducible repeat (first | refine blk_drewN ?_ _ | refine blk_drew ?_ | refine blk_alloc ?_ _)); exact BK359.out) hb)
    have n8_ := Aside0.mk (blk_below (g := gb364) (o := .cells #[.int .i64 t361, .int .i64 t362, .int .i64 t363] 23 (0, 0)) (by (with_reducible repeat (first | refine blk_drewN ?_ _ | refine blk_drew ?_ | refine blk_alloc ?_ _)); exact BK364.out) hb)
    have n9_ := Aside0.mk (blk_below (g := gb368) (o := .cells #[.int .i64 t365, .int .i64 t362, .int .i64 t367] 23 (0, 0)) (by (with_reducible repeat (first | refine blk_drewN ?_ _ | refine blk_drew ?_ | refine blk_alloc ?_ _)); exact BK368.out) hb)
    have n10_ := Aside0.mk (blk_below (g := gb381) (o := .cells #[.bool t372, .bool t373, .slice Ao39 t374.length co39, .slice Ao41 t377.length co41] 30 (0, 0)) (by (with_reducible repeat (first | refine blk_drewN ?_ _ | refine blk_drew ?_ | refine blk_alloc ?_ _)); exact BK381.out) hb)
    have n11_ := Aside0.mk (below_step (by repeat (first | (with_reducible first | exact HB.out | apply below_alloc | apply pw_below_drewN | apply below_drew1 | refine below_set ?_ GE358.out | refine below_set ?_ GE359.out | refine below_set ?_ GE364.out | refine below_set ?_ GE368.out | refine below_set ?_ GE381.out) | exact HB.out)) hb)
    clear HO371
    clear HO376
    clear HO379
    clear HO384
    clear BK358
    clear BK359
    clear BK364
    clear BK368
    clear BK381
    clear HB
    have HO371 := n0_
    have HO376 := n1_
    have HO379 := n2_
    have HO384 := n3_
    have HO389 := n4_
    have HO392 := n5_
    have BK358 := n6_
    have BK359 := n7_
    have BK364 := n8_
    have BK368 := n9_
    have BK381 := n10_
    have HB := n11_
    clear n0_ n1_ n2_ n3_ n4_ n5_ n6_ n7_ n8_ n9_ n10_ n11_
    (try clear hb)
    (try clear hb2)
    (try clear hk)
    (try clear hi)
    (try clear ho0)
    (try clear ho1)
    refine hK.out _ _ ⟨(blk_cell BK364.out 0).trans rfl, (blk_cell BK364.out 1).trans rfl, (blk_cell BK364.out 2).trans rfl⟩ (fun hHeld => ?_)
    clear hK K
    refine norm_ (a' := ?_) ?_ ?_
    rotate_left
    ·show Act.put _ (some 35) _ = _
     simp only [Act.put, List.setIfInBounds_toArray, List.set_cons_zero, List.set_cons_succ, i64_w, i32_w]
     rfl
    refine pure_ (i := 5) (N := some 30) (v := ?_) (a' := ?_) #[true, true, true, true, true, true, false, false, false, false, false] rfl rfl (any_of HT_.out (by kernel_rfl)) (fun _ _ _ h => h) (Or.inl ⟨by rfl, ?_⟩) ?_ ?_
    rotate_left
    ·intro w'
     go_simp
     with_reducible rfl
    rotate_left
    ·simp only [Act.put, List.setIfInBounds_toArray, List.set_cons_zero, List.set_cons_succ, i64_w, i32_w]
     rfl
    refine pure_ (i := 6) (N := some 36) (v := ?_) (a' := ?_) #[true, true, true, true, true, true, true, false, false, false, false] rfl rfl (any_of HT_.out (by kernel_rfl)) (fun _ _ _ h => h) (Or.inl ⟨by rfl, ?_⟩) ?_ ?_
    rotate_left
    ·intro w'
     go_simp
     with_reducible rfl
    rotate_left
    ·simp only [Act.put, List.setIfInBounds_toArray, List.set_cons_zero, List.set_cons_succ, i64_w, i32_w]
     rfl
    refine pure_ (i := 7) (N := some 37) (v := ?_) (a' := ?_) #[true, true, true, true, true, true, true, true, false, false, false] rfl rfl (any_of HT_.out (by kernel_rfl)) (fun _ _ _ h => h) (Or.inl ⟨by rfl, ?_⟩) ?_ ?_
    rotate_left
    ·intro w'
     go_simp
     with_reducible rfl
    rotate_left
    ·simp only [Act.put, List.setIfInBounds_toArray, List.set_cons_zero, List.set_cons_succ, i64_w, i32_w]
     rfl
    refine one_ (i := 8) (N := some 10) #[true, true, true, true, true, true, true, true, true, false, false] rfl rfl (one_of HT_.out (by kernel_rfl)) (by decide) (fun K hK => ?_)
    refine box_step ?hg (N := 10) ?hd (cs := #[.bool false, .bool false, .slice none 0 0, .slice none 0 0]) (t := 30) ?hr ?_; (case hd => rfl); (case hg => rfl); (case hr => first | (go_simp; done) | (go_simp; rfl))
    intro gb394 hg w48 hbox hb
    have n0_ := Aside0.mk (Kd.R_below (by (with_reducible repeat (first | apply Kd.R_alloc | apply Kd.R_drewN | apply Kd.R_drew)); exact HO371.out) hb)
    have n1_ := Aside0.mk (Kd.R_below (by (with_reducible repeat (first | apply Kd.R_alloc | apply Kd.R_drewN | apply Kd.R_drew)); exact HO376.out) hb)
    have n2_ := Aside0.mk (Kd.R_below (by (with_reducible repeat (first | apply Kd.R_alloc | apply Kd.R_drewN | apply Kd.R_drew)); exact HO379.out) hb)
    have n3_ := Aside0.mk (Kd.R_below (by (with_reducible repeat (first | apply Kd.R_alloc | apply Kd.R_drewN | apply Kd.R_drew)); exact HO384.out) hb)
    have n4_ := Aside0.mk (Kd.R_below (by (with_reducible repeat (first | apply Kd.R_alloc | apply Kd.R_drewN | apply Kd.R_drew)); exact HO389.out) hb)
    have n5_ := Aside0.mk (Kd.R_below (by (with_reducible repeat (first | apply Kd.R_alloc | apply Kd.R_drewN | apply Kd.R_drew)); exact HO392.out) hb)
    have n6_ := Aside0.mk (blk_below (g := gb358) (o := .cells #[.int .u8 a0_0, .int .u8 a0_1, .int .u8 a0_2] 39 (0, 0)) (by (with_reducible repeat (first | refine blk_drewN ?_ _ | refine blk_drew ?_ | refine blk_alloc ?_ _)); exact BK358.out) hb)
    have n7_ := Aside0.mk (blk_below (g := gb359) (o := .cells #[.int .u8 a1_0, .int .u8 a1_1, .int .u8 a1_2] 39 (0, 0)) (by (with_reducible repeat (first | refine blk_drewN ?_ _ | refine blk_drew ?_ | refine blk_alloc ?_ _)); exact BK359.out) hb)
    have n8_ := Aside0.mk (blk_below (g := gb364) (o := .cells #[.int .i64 t361, .int .i64 t362, .int .i64 t363] 23 (0, 0)) (by (with_reducible repeat (first | refine blk_drewN ?_ _ | refine blk_drew ?_ | refine blk_alloc ?_ _)); exact BK364.out) hb)
    have n9_ := Aside0.mk (blk_below (g := gb368) (o := .cells #[.int .i64 t365, .int .i64 t362, .int .i64 t367] 23 (0, 0)) (by (with_reducible repeat (first | refine blk_drewN ?_ _ | refine blk_drew ?_ | refine blk_alloc ?_ _)); exact BK368.out) hb)
    have n10_ := Aside0.mk (blk_below (g := gb381) (o := .cells #[.bool t372, .bool t373, .slice Ao39 t374.length co39, .slice Ao41 t377.length co41] 30 (0, 0)) (by (with_reducible repeat (first | refine blk_drewN ?_ _ | refine blk_drew ?_ | refine blk_alloc ?_ _)); exact BK381.out) hb)
    have n11_ := Aside0.mk (below_step (by repeat (first | (with_reducible first | exact HB.out | apply below_alloc | apply pw_below_drewN | apply below_drew1 | refine below_set ?_ GE358.out | refine below_set ?_ GE359.out | refine below_set ?_ GE364.out | refine below_set ?_ GE368.out | refine below_set ?_ GE381.out) | exact HB.out)) hb)
    have n12_ := Aside0.mk (hbox)
    have n13_ := Aside0.mk ((by rw [hg]; exact (below_size (by repeat (first | (with_reducible first | exact HB.out | apply below_alloc | apply pw_below_drewN | apply below_drew1 | refine below_set ?_ GE358.out | refine below_set ?_ GE359.out | refine below_set ?_ GE364.out | refine below_set ?_ GE368.out | refine below_set ?_ GE381.out) | exact HB.out))) : w.heap.size ≤ gb394))
    have n14_ := Aside0.mk ((by rw [hg]; exact (below_size (by repeat (first | (with_reducible first | exact HB.out | apply below_alloc | apply pw_below_drewN | apply below_drew1 | refine below_set ?_ GE358.out | refine below_set ?_ GE359.out | refine below_set ?_ GE364.out | refine below_set ?_ GE368.out | refine below_set ?_ GE381.out) | exact HB.out))) : w.heap.size ≤ gb394))
    have n15_ := Aside0.mk ((by rw [hg]; exact Nat.ne_of_lt (blk_lt (g := gb358) (o := .cells #[.int .u8 a0_0, .int .u8 a0_1, .int .u8 a0_2] 39 (0, 0)) (by (with_reducible repeat (first | refine blk_drewN ?_ _ | refine blk_drew ?_ | refine blk_alloc ?_ _)); exact BK358.out)) : gb358 ≠ gb394))
    have n16_ := Aside0.mk ((by rw [hg]; exact Nat.ne_of_gt (blk_lt (g := gb358) (o := .cells #[.int .u8 a0_0, .int .u8 a0_1, .int .u8 a0_2] 39 (0, 0)) (by (with_reducible repeat (first | refine blk_drewN ?_ _ | refine blk_drew ?_ | refine blk_alloc ?_ _)); exact BK358.out)) : gb394 ≠ gb358))
    have n17_ := Aside0.mk ((by rw [hg]; exact Nat.ne_of_lt (blk_lt (g := gb359) (o := .cells #[.int .u8 a1_0, .int .u8 a1_1, .int .u8 a1_2] 39 (0, 0)) (by (with_reducible repeat (first | refine blk_drewN ?_ _ | refine blk_drew ?_ | refine blk_alloc ?_ _)); exact BK359.out)) : gb359 ≠ gb394))
    have n18_ := Aside0.mk ((by rw [hg]; exact Nat.ne_of_gt (blk_lt (g := gb359) (o := .cells #[.int .u8 a1_0, .int .u8 a1_1, .int .u8 a1_2] 39 (0, 0)) (by (with_reducible repeat (first | refine blk_drewN ?_ _ | refine blk_drew ?_ | refine blk_alloc ?_ _)); exact BK359.out)) : gb394 ≠ gb359))
    have n19_ := Aside0.mk ((by rw [hg]; exact Nat.ne_of_lt (blk_lt (g := gb364) (o := .cells #[.int .i64 t361, .int .i64 t362, .int .i64 t363] 23 (0, 0)) (by (with_reducible repeat (first | refine blk_drewN ?_ _ | refine blk_drew ?_ | refine blk_alloc ?_ _)); exact BK364.out)) : gb364 ≠ gb394))
    have n20_ := Aside0.mk ((by rw [hg]; exact Nat.ne_of_gt (blk_lt (g := gb364) (o := .cells #[.int .i64 t361, .int .i64 t362, .int .i64 t363] 23 (0, 0)) (by (with_reducible repeat (first | refine blk_drewN ?_ _ | refine blk_drew ?_ | refine blk_alloc ?_ _)); exact BK364.out)) : gb394 ≠ gb364))
    have n21_ := Aside0.mk ((by rw [hg]; exact Nat.ne_of_lt (blk_lt (g := gb368) (o := .cells #[.int .i64 t365, .int .i64 t362, .int .i64 t367] 23 (0, 0)) (by (with_reducible repeat (first | refine blk_drewN ?_ _ | refine blk_drew ?_ | refine blk_alloc ?_ _)); exact BK368.out)) : gb368 ≠ gb394))
    have n22_ := Aside0.mk ((by rw [hg]; exact Nat.ne_of_gt (blk_lt (g := gb368) (o := .cells #[.int .i64 t365, .int .i64 t362, .int .i64 t367] 23 (0, 0)) (by (with_reducible repeat (first | refine blk_drewN ?_ _ | refine blk_drew ?_ | refine blk_alloc ?_ _)); exact BK368.out)) : gb394 ≠ gb368))
    have n23_ := Aside0.mk ((by rw [hg]; exact Nat.ne_of_lt (blk_lt (g := gb381) (o := .cells #[.bool t372, .bool t373, .slice Ao39 t374.length co39, .slice Ao41 t377.length co41] 30 (0, 0)) (by (with_reducible repeat (first | refine blk_drewN ?_ _ | refine blk_drew ?_ | refine blk_alloc ?_ _)); exact BK381.out)) : gb381 ≠ gb394))
    have n24_ := Aside0.mk ((by rw [hg]; exact Nat.ne_of_gt (blk_lt (g := gb381) (o := .cells #[.bool t372, .bool t373, .slice Ao39 t374.length co39, .slice Ao41 t377.length co41] 30 (0, 0)) (by (with_reducible repeat (first | refine blk_drewN ?_ _ | refine blk_drew ?_ | refine blk_alloc ?_ _)); exact BK381.out)) : gb394 ≠ gb381))
    clear HO371
    clear HO376
    clear HO379
    clear HO384
    clear HO389
    clear HO392
    clear BK358
    clear BK359
    clear BK364
    clear BK368
    clear BK381
    clear HB
    have HO371 := n0_
    have HO376 := n1_
    have HO379 := n2_
    have HO384 := n3_
    have HO389 := n4_
    have HO392 := n5_
    have BK358 := n6_
    have BK359 := n7_
    have BK364 := n8_
    have BK368 := n9_
    have BK381 := n10_
    have HB := n11_
    have BK394 := n12_
    have GW394 := n13_
    have GE394 := n14_
    have NB358_394 := n15_
    have NB394_358 := n16_
    have NB359_394 := n17_
    have NB394_359 := n18_
    have NB364_394 := n19_
    have NB394_364 := n20_
    have NB368_394 := n21_
    have NB394_368 := n22_
    have NB381_394 := n23_
    have NB394_381 := n24_
    clear n0_ n1_ n2_ n3_ n4_ n5_ n6_ n7_ n8_ n9_ n10_ n11_ n12_ n13_ n14_ n15_ n16_ n17_ n18_ n19_ n20_ n21_ n22_ n23_ n24_
    clear hb hbox hg
    refine hK.out _ _ ⟨(blk_cell BK364.out 0).trans rfl, (blk_cell BK364.out 1).trans rfl, (blk_cell BK364.out 2).trans rfl⟩ (fun hHeld => ?_)
    clear hK K
    refine norm_ (a' := ?_) ?_ ?_
    rotate_left
    ·show Act.put _ (some 10) _ = _
     simp only [Act.put, List.setIfInBounds_toArray, List.set_cons_zero, List.set_cons_succ, i64_w, i32_w]
     rfl
    exact norm_ (by simp only [putAll, Act.put, List.setIfInBounds_toArray, List.set_cons_zero, List.set_cons_succ]) (hCont (.slice Ao46 t382.length co46, v388, v391, gb394) _ ⟨hHeld, (by (with_reducible repeat (first | apply Kd.R_alloc | apply Kd.R_drewN | apply Kd.R_drew)); exact Kd.R_mono HO371.out (fun _ hk => hk.2)), (by (with_reducible repeat (first | apply Kd.R_alloc | apply Kd.R_drewN | apply Kd.R_drew)); exact Kd.R_mono HO376.out (fun _ hk => ⟨hk.1.1, ⟨hk.1.2, hk.2⟩⟩)), (by (with_reducible repeat (first | apply Kd.R_alloc | apply Kd.R_drewN | apply Kd.R_drew)); exact Kd.R_mono HO379.out (fun _ hk => ⟨hk.1.1, ⟨hk.1.2, hk.2⟩⟩)), (by (with_reducible repeat (first | apply Kd.R_alloc | apply Kd.R_drewN | apply Kd.R_drew)); exact Kd.R_mono HO384.out (fun _ hk => hk.2)), (by (with_reducible repeat (first | apply Kd.R_alloc | apply Kd.R_drewN | apply Kd.R_drew)); exact Kd.R_mono HO389.out (fun _ hk => ⟨hk.1.2, ⟨hk.2, hk.1.1⟩⟩)), (by (with_reducible repeat (first | apply Kd.R_alloc | apply Kd.R_drewN | apply Kd.R_drew)); exact Kd.R_mono HO392.out (fun _ hk => ⟨hk.1.2, ⟨hk.2, hk.1.1⟩⟩)), (by (with_reducible repeat (first | refine blk_drewN ?_ _ | refine blk_drew ?_ | refine blk_alloc ?_ _)); exact BK358.out), (by (with_reducible repeat (first | refine blk_drewN ?_ _ | refine blk_drew ?_ | refine blk_alloc ?_ _)); exact BK359.out), (by (with_reducible repeat (first | refine blk_drewN ?_ _ | refine blk_drew ?_ | refine blk_alloc ?_ _)); exact BK364.out), (by (with_reducible repeat (first | refine blk_drewN ?_ _ | refine blk_drew ?_ | refine blk_alloc ?_ _)); exact BK368.out), (by (with_reducible repeat (first | refine blk_drewN ?_ _ | refine blk_drew ?_ | refine blk_alloc ?_ _)); exact BK381.out), (by (with_reducible repeat (first | refine blk_drewN ?_ _ | refine blk_drew ?_ | refine blk_alloc ?_ _)); exact BK394.out), GW394.out, GE394.out, NB358_394.out, NB394_358.out, NB359_394.out, NB394_359.out, NB364_394.out, NB394_364.out, NB368_394.out, NB394_368.out, NB381_394.out, NB394_381.out, (by repeat (first | (with_reducible first | exact HB.out | apply below_alloc | apply pw_below_drewN | apply below_drew1 | refine below_set ?_ GE358.out | refine below_set ?_ GE359.out | refine below_set ?_ GE364.out | refine below_set ?_ GE368.out | refine below_set ?_ GE381.out | refine below_set ?_ GE394.out) | exact HB.out))⟩)
   ·skip
    refine box_step ?hg (N := 10) ?hd (cs := #[.bool false, .bool false, .slice none 0 0, .slice none 0 0]) (t := 30) ?hr ?_; (case hd => rfl); (case hg => rfl); (case hr => first | (go_simp; done) | (go_simp; rfl))
    intro gb394 hg w46 hbox hb
    have n0_ := Aside0.mk (Kd.R_below (by (with_reducible repeat (first | apply Kd.R_alloc | apply Kd.R_drewN | apply Kd.R_drew)); exact HO371.out) hb)
    have n1_ := Aside0.mk (Kd.R_below (by (with_reducible repeat (first | apply Kd.R_alloc | apply Kd.R_drewN | apply Kd.R_drew)); exact HO376.out) hb)
    have n2_ := Aside0.mk (Kd.R_below (by (with_reducible repeat (first | apply Kd.R_alloc | apply Kd.R_drewN | apply Kd.R_drew)); exact HO379.out) hb)
    have n3_ := Aside0.mk (Kd.R_below (by (with_reducible repeat (first | apply Kd.R_alloc | apply Kd.R_drewN | apply Kd.R_drew)); exact HO384.out) hb)
    have n4_ := Aside0.mk (blk_below (g := gb358) (o := .cells #[.int .u8 a0_0, .int .u8 a0_1, .int .u8 a0_2] 39 (0, 0)) (by (with_reducible repeat (first | refine blk_drewN ?_ _ | refine blk_drew ?_ | refine blk_alloc ?_ _)); exact BK358.out) hb)
    have n5_ := Aside0.mk (blk_below (g := gb359) (o := .cells #[.int .u8 a1_0, .int .u8 a1_1, .int .u8 a1_2] 39 (0, 0)) (by (with_reducible repeat (first | refine blk_drewN ?_ _ | refine blk_drew ?_ | refine blk_alloc ?_ _)); exact BK359.out) hb)
    have n6_ := Aside0.mk (blk_below (g := gb364) (o := .cells #[.int .i64 t361, .int .i64 t362, .int .i64 t363] 23 (0, 0)) (by (with_reducible repeat (first | refine blk_drewN ?_ _ | refine blk_drew ?_ | refine blk_alloc ?_ _)); exact BK364.out) hb)
    have n7_ := Aside0.mk (blk_below (g := gb368) (o := .cells #[.int .i64 t365, .int .i64 t362, .int .i64 t367] 23 (0, 0)) (by (with_reducible repeat (first | refine blk_drewN ?_ _ | refine blk_drew ?_ | refine blk_alloc ?_ _)); exact BK368.out) hb)
    have n8_ := Aside0.mk (blk_below (g := gb381) (o := .cells #[.bool t372, .bool t373, .slice Ao39 t374.length co39, .slice Ao41 t377.length co41] 30 (0, 0)) (by (with_reducible repeat (first | refine blk_drewN ?_ _ | refine blk_drew ?_ | refine blk_alloc ?_ _)); exact BK381.out) hb)
    have n9_ := Aside0.mk (below_step (by repeat (first | (with_reducible first | exact HB.out | apply below_alloc | apply pw_below_drewN | apply below_drew1 | refine below_set ?_ GE358.out | refine below_set ?_ GE359.out | refine below_set ?_ GE364.out | refine below_set ?_ GE368.out | refine below_set ?_ GE381.out) | exact HB.out)) hb)
    have n10_ := Aside0.mk (hbox)
    have n11_ := Aside0.mk ((by rw [hg]; exact (below_size (by repeat (first | (with_reducible first | exact HB.out | apply below_alloc | apply pw_below_drewN | apply below_drew1 | refine below_set ?_ GE358.out | refine below_set ?_ GE359.out | refine below_set ?_ GE364.out | refine below_set ?_ GE368.out | refine below_set ?_ GE381.out) | exact HB.out))) : w.heap.size ≤ gb394))
    have n12_ := Aside0.mk ((by rw [hg]; exact (below_size (by repeat (first | (with_reducible first | exact HB.out | apply below_alloc | apply pw_below_drewN | apply below_drew1 | refine below_set ?_ GE358.out | refine below_set ?_ GE359.out | refine below_set ?_ GE364.out | refine below_set ?_ GE368.out | refine below_set ?_ GE381.out) | exact HB.out))) : w.heap.size ≤ gb394))
    have n13_ := Aside0.mk ((by rw [hg]; exact Nat.ne_of_lt (blk_lt (g := gb358) (o := .cells #[.int .u8 a0_0, .int .u8 a0_1, .int .u8 a0_2] 39 (0, 0)) (by (with_reducible repeat (first | refine blk_drewN ?_ _ | refine blk_drew ?_ | refine blk_alloc ?_ _)); exact BK358.out)) : gb358 ≠ gb394))
    have n14_ := Aside0.mk ((by rw [hg]; exact Nat.ne_of_gt (blk_lt (g := gb358) (o := .cells #[.int .u8 a0_0, .int .u8 a0_1, .int .u8 a0_2] 39 (0, 0)) (by (with_reducible repeat (first | refine blk_drewN ?_ _ | refine blk_drew ?_ | refine blk_alloc ?_ _)); exact BK358.out)) : gb394 ≠ gb358))
    have n15_ := Aside0.mk ((by rw [hg]; exact Nat.ne_of_lt (blk_lt (g := gb359) (o := .cells #[.int .u8 a1_0, .int .u8 a1_1, .int .u8 a1_2] 39 (0, 0)) (by (with_reducible repeat (first | refine blk_drewN ?_ _ | refine blk_drew ?_ | refine blk_alloc ?_ _)); exact BK359.out)) : gb359 ≠ gb394))
    have n16_ := Aside0.mk ((by rw [hg]; exact Nat.ne_of_gt (blk_lt (g := gb359) (o := .cells #[.int .u8 a1_0, .int .u8 a1_1, .int .u8 a1_2] 39 (0, 0)) (by (with_reducible repeat (first | refine blk_drewN ?_ _ | refine blk_drew ?_ | refine blk_alloc ?_ _)); exact BK359.out)) : gb394 ≠ gb359))
    have n17_ := Aside0.mk ((by rw [hg]; exact Nat.ne_of_lt (blk_lt (g := gb364) (o := .cells #[.int .i64 t361, .int .i64 t362, .int .i64 t363] 23 (0, 0)) (by (with_reducible repeat (first | refine blk_drewN ?_ _ | refine blk_drew ?_ | refine blk_alloc ?_ _)); exact BK364.out)) : gb364 ≠ gb394))
    have n18_ := Aside0.mk ((by rw [hg]; exact Nat.ne_of_gt (blk_lt (g := gb364) (o := .cells #[.int .i64 t361, .int .i64 t362, .int .i64 t363] 23 (0, 0)) (by (with_reducible repeat (first | refine blk_drewN ?_ _ | refine blk_drew ?_ | refine blk_alloc ?_ _)); exact BK364.out)) : gb394 ≠ gb364))
    have n19_ := Aside0.mk ((by rw [hg]; exact Nat.ne_of_lt (blk_lt (g := gb368) (o := .cells #[.int .i64 t365, .int .i64 t362, .int .i64 t367] 23 (0, 0)) (by (with_reducible repeat (first | refine blk_drewN ?_ _ | refine blk_drew ?_ | refine blk_alloc ?_ _)); exact BK368.out)) : gb368 ≠ gb394))
    have n20_ := Aside0.mk ((by rw [hg]; exact Nat.ne_of_gt (blk_lt (g := gb368) (o := .cells #[.int .i64 t365, .int .i64 t362, .int .i64 t367] 23 (0, 0)) (by (with_reducible repeat (first | refine blk_drewN ?_ _ | refine blk_drew ?_ | refine blk_alloc ?_ _)); exact BK368.out)) : gb394 ≠ gb368))
    have n21_ := Aside0.mk ((by rw [hg]; exact Nat.ne_of_lt (blk_lt (g := gb381) (o := .cells #[.bool t372, .bool t373, .slice Ao39 t374.length co39, .slice Ao41 t377.length co41] 30 (0, 0)) (by (with_reducible repeat (first | refine blk_drewN ?_ _ | refine blk_drew ?_ | refine blk_alloc ?_ _)); exact BK381.out)) : gb381 ≠ gb394))
    have n22_ := Aside0.mk ((by rw [hg]; exact Nat.ne_of_gt (blk_lt (g := gb381) (o := .cells #[.bool t372, .bool t373, .slice Ao39 t374.length co39, .slice Ao41 t377.length co41] 30 (0, 0)) (by (with_reducible repeat (first | refine blk_drewN ?_ _ | refine blk_drew ?_ | refine blk_alloc ?_ _)); exact BK381.out)) : gb394 ≠ gb381))
    clear HO371
    clear HO376
    clear HO379
    clear HO384
    clear BK358
    clear BK359
    clear BK364
    clear BK368
    clear BK381
    clear HB
    have HO371 := n0_
    have HO376 := n1_
    have HO379 := n2_
    have HO384 := n3_
    have BK358 := n4_
    have BK359 := n5_
    have BK364 := n6_
    have BK368 := n7_
    have BK381 := n8_
    have HB := n9_
    have BK394 := n10_
    have GW394 := n11_
    have GE394 := n12_
    have NB358_394 := n13_
    have NB394_358 := n14_
    have NB359_394 := n15_
    have NB394_359 := n16_
    have NB364_394 := n17_
    have NB394_364 := n18_
    have NB368_394 := n19_
    have NB394_368 := n20_
    have NB381_394 := n21_
    have NB394_381 := n22_
    clear n0_ n1_ n2_ n3_ n4_ n5_ n6_ n7_ n8_ n9_ n10_ n11_ n12_ n13_ n14_ n15_ n16_ n17_ n18_ n19_ n20_ n21_ n22_
    clear hb hbox hg
    obtain ⟨Ao47, co47, eo47⟩ := Kd.R_slice HO384.out
    (first | subst eo47 | (injection eo47 with f1_ f2_ f3_; have f4_ := f1_.symm; have f5_ := f3_.symm; clear f1_ f2_ f3_; subst f4_; subst f5_))
    refine hK.out _ _ ⟨(blk_cell BK364.out 0).trans rfl, (blk_cell BK364.out 1).trans rfl, (blk_cell BK364.out 2).trans rfl⟩ (fun hHeld => ?_)
    clear hK K
    refine norm_ (a' := ?_) ?_ ?_
    rotate_left
    ·show Act.put _ (some 10) _ = _
     simp only [Act.put, List.setIfInBounds_toArray, List.set_cons_zero, List.set_cons_succ, i64_w, i32_w]
     rfl
    refine one_ (i := 4) (N := some 35) #[true, true, true, true, true, false, false, false, true, false, false] rfl rfl (one_of HT_.out (by kernel_rfl)) (by decide) (fun K hK => ?_)
    refine goes_ Tryd.func8 (by kernel_rfl) rfl #[.string (⟨#[97, 98, 99]⟩ : ByteArray), .agg #[.int .i64 t361, .int .i64 t362, .int .i64 t363], .slice Ao47 t382.length co47, .agg #[.int .i64 t361, .int .i64 t362, .int .i64 t363]] (by rfl) rfl rfl (by (try simp only [List.map_toArray, List.map_cons, List.map_nil]); first | done | rfl | (simp only [List.length_drop, List.length_take]; rfl)) ?_
    with_reducible refine (plan_Of.calls k (⟨#[97, 98, 99]⟩ : ByteArray) t361 t362 t363 _ _ t382 t361 t362 t363 t385 t386 t387 t390 t393 _ ?side1 ?side2 A9.out).mono ?_
    (case side1 => repeat (first | exact (Kd.R_reads' HO384.out).2.2 | (with_reducible refine Kd.C_alloc ?_ _) | (with_reducible refine Kd.C_drewN ?_ _) | (with_reducible refine Kd.C_drew ?_)))
    (case side2 => exact (Kd.R_reads' HO384.out).2.1)
    rintro e w48 ⟨v388, v391, rfl, ho0, ho1, hb⟩
    refine ⟨_, rfl, ?_⟩
    have n0_ := Aside0.mk (Kd.R_below (by (with_reducible repeat (first | apply Kd.R_alloc | apply Kd.R_drewN | apply Kd.R_drew)); exact HO371.out) hb)
    have n1_ := Aside0.mk (Kd.R_mono (Kd.R_told (Kd.R_told (Kd.R_old (by (with_reducible repeat (first | apply Kd.R_alloc | apply Kd.R_drewN | apply Kd.R_drew)); exact HO376.out) hb) (Kd.R_base ho0)) (Kd.R_base ho1)) (fun _ h_ => h_.1))
    have n2_ := Aside0.mk (Kd.R_mono (Kd.R_told (Kd.R_told (Kd.R_old (by (with_reducible repeat (first | apply Kd.R_alloc | apply Kd.R_drewN | apply Kd.R_drew)); exact HO379.out) hb) (Kd.R_base ho0)) (Kd.R_base ho1)) (fun _ h_ => h_.1))
    have n3_ := Aside0.mk (Kd.R_below (by (with_reducible repeat (first | apply Kd.R_alloc | apply Kd.R_drewN | apply Kd.R_drew)); exact HO384.out) hb)
    have n4_ := Aside0.mk (Kd.R_lower (Kd.R_new' (Kd.R_new' ho0 (Kd.R_lt (by (with_reducible repeat (first | apply Kd.R_alloc | apply Kd.R_drewN | apply Kd.R_drew)); exact HO376.out))) (Kd.R_lt (by (with_reducible repeat (first | apply Kd.R_alloc | apply Kd.R_drewN | apply Kd.R_drew)); exact HO379.out))) (below_size (by repeat (first | (with_reducible first | exact HB.out | apply below_alloc | apply pw_below_drewN | apply below_drew1 | refine below_set ?_ GE358.out | refine below_set ?_ GE359.out | refine below_set ?_ GE364.out | refine below_set ?_ GE368.out | refine below_set ?_ GE381.out | refine below_set ?_ GE394.out) | exact HB.out))))
    have n5_ := Aside0.mk (Kd.R_lower (Kd.R_new' (Kd.R_new' ho1 (Kd.R_lt (by (with_reducible repeat (first | apply Kd.R_alloc | apply Kd.R_drewN | apply Kd.R_drew)); exact HO376.out))) (Kd.R_lt (by (with_reducible repeat (first | apply Kd.R_alloc | apply Kd.R_drewN | apply Kd.R_drew)); exact HO379.out))) (below_size (by repeat (first | (with_reducible first | exact HB.out | apply below_alloc | apply pw_below_drewN | apply below_drew1 | refine below_set ?_ GE358.out | refine below_set ?_ GE359.out | refine below_set ?_ GE364.out | refine below_set ?_ GE368.out | refine below_set ?_ GE381.out | refine below_set ?_ GE394.out) | exact HB.out))))
    have n6_ := Aside0.mk (blk_below (g := gb358) (o := .cells #[.int .u8 a0_0, .int .u8 a0_1, .int .u8 a0_2] 39 (0, 0)) (by (with_reducible repeat (first | refine blk_drewN ?_ _ | refine blk_drew ?_ | refine blk_alloc ?_ _)); exact BK358.out) hb)
    have n7_ := Aside0.mk (blk_below (g := gb359) (o := .cells #[.int .u8 a1_0, .int .u8 a1_1, .int .u8 a1_2] 39 (0, 0)) (by (with_reducible repeat (first | refine blk_drewN ?_ _ | refine blk_drew ?_ | refine blk_alloc ?_ _)); exact BK359.out) hb)
    have n8_ := Aside0.mk (blk_below (g := gb364) (o := .cells #[.int .i64 t361, .int .i64 t362, .int .i64 t363] 23 (0, 0)) (by (with_reducible repeat (first | refine blk_drewN ?_ _ | refine blk_drew ?_ | refine blk_alloc ?_ _)); exact BK364.out) hb)
    have n9_ := Aside0.mk (blk_below (g := gb368) (o := .cells #[.int .i64 t365, .int .i64 t362, .int .i64 t367] 23 (0, 0)) (by (with_reducible repeat (first | refine blk_drewN ?_ _ | refine blk_drew ?_ | refine blk_alloc ?_ _)); exact BK368.out) hb)
    have n10_ := Aside0.mk (blk_below (g := gb381) (o := .cells #[.bool t372, .bool t373, .slice Ao39 t374.length co39, .slice Ao41 t377.length co41] 30 (0, 0)) (by (with_reducible repeat (first | refine blk_drewN ?_ _ | refine blk_drew ?_ | refine blk_alloc ?_ _)); exact BK381.out) hb)
    have n11_ := Aside0.mk (blk_below (g := gb394) (o := .cells #[.bool false, .bool false, .slice none 0 0, .slice none 0 0] 30 (0, 0)) (by (with_reducible repeat (first | refine blk_drewN ?_ _ | refine blk_drew ?_ | refine blk_alloc ?_ _)); exact BK394.out) hb)
    have n12_ := Aside0.mk (below_step (by repeat (first | (with_reducible first | exact HB.out | apply below_alloc | apply pw_below_drewN | apply below_drew1 | refine below_set ?_ GE358.out | refine below_set ?_ GE359.out | refine below_set ?_ GE364.out | refine below_set ?_ GE368.out | refine below_set ?_ GE381.out | refine below_set ?_ GE394.out) | exact HB.out)) hb)
    clear HO371
    clear HO376
    clear HO379
    clear HO384
    clear BK358
    clear BK359
    clear BK364
    clear BK368
    clear BK381
    clear BK394
    clear HB
    have HO371 := n0_
    have HO376 := n1_
    have HO379 := n2_
    have HO384 := n3_
    have HO389 := n4_
    have HO392 := n5_
    have BK358 := n6_
    have BK359 := n7_
    have BK364 := n8_
    have BK368 := n9_
    have BK381 := n10_
    have BK394 := n11_
    have HB := n12_
    clear n0_ n1_ n2_ n3_ n4_ n5_ n6_ n7_ n8_ n9_ n10_ n11_ n12_
    (try clear hb)
    (try clear hb2)
    (try clear hk)
    (try clear hi)
    (try clear ho0)
    (try clear ho1)
    refine hK.out _ _ ⟨(blk_cell BK364.out 0).trans rfl, (blk_cell BK364.out 1).trans rfl, (blk_cell BK364.out 2).trans rfl⟩ (fun hHeld => ?_)
    clear hK K
    refine norm_ (a' := ?_) ?_ ?_
    rotate_left
    ·show Act.put _ (some 35) _ = _
     simp only [Act.put, List.setIfInBounds_toArray, List.set_cons_zero, List.set_cons_succ, i64_w, i32_w]
     rfl
    refine pure_ (i := 5) (N := some 30) (v := ?_) (a' := ?_) #[true, true, true, true, true, true, false, false, true, false, false] rfl rfl (any_of HT_.out (by kernel_rfl)) (fun _ _ _ h => h) (Or.inl ⟨by rfl, ?_⟩) ?_ ?_
    rotate_left
    ·intro w'
     go_simp
     with_reducible rfl
    rotate_left
    ·simp only [Act.put, List.setIfInBounds_toArray, List.set_cons_zero, List.set_cons_succ, i64_w, i32_w]
     rfl
    refine pure_ (i := 6) (N := some 36) (v := ?_) (a' := ?_) #[true, true, true, true, true, true, true, false, true, false, false] rfl rfl (any_of HT_.out (by kernel_rfl)) (fun _ _ _ h => h) (Or.inl ⟨by rfl, ?_⟩) ?_ ?_
    rotate_left
    ·intro w'
     go_simp
     with_reducible rfl
    rotate_left
    ·simp only [Act.put, List.setIfInBounds_toArray, List.set_cons_zero, List.set_cons_succ, i64_w, i32_w]
     rfl
    refine pure_ (i := 7) (N := some 37) (v := ?_) (a' := ?_) #[true, true, true, true, true, true, true, true, true, false, false] rfl rfl (any_of HT_.out (by kernel_rfl)) (fun _ _ _ h => h) (Or.inl ⟨by rfl, ?_⟩) ?_ ?_
    rotate_left
    ·intro w'
     go_simp
     with_reducible rfl
    rotate_left
    ·simp only [Act.put, List.setIfInBounds_toArray, List.set_cons_zero, List.set_cons_succ, i64_w, i32_w]
     rfl
    exact norm_ (by simp only [putAll, Act.put, List.setIfInBounds_toArray, List.set_cons_zero, List.set_cons_succ]) (hCont (.slice Ao47 t382.length co47, v388, v391, gb394) _ ⟨hHeld, (by (with_reducible repeat (first | apply Kd.R_alloc | apply Kd.R_drewN | apply Kd.R_drew)); exact Kd.R_mono HO371.out (fun _ hk => hk.2)), (by (with_reducible repeat (first | apply Kd.R_alloc | apply Kd.R_drewN | apply Kd.R_drew)); exact Kd.R_mono HO376.out (fun _ hk => ⟨hk.1.1, ⟨hk.1.2, hk.2⟩⟩)), (by (with_reducible repeat (first | apply Kd.R_alloc | apply Kd.R_drewN | apply Kd.R_drew)); exact Kd.R_mono HO379.out (fun _ hk => ⟨hk.1.1, ⟨hk.1.2, hk.2⟩⟩)), (by (with_reducible repeat (first | apply Kd.R_alloc | apply Kd.R_drewN | apply Kd.R_drew)); exact Kd.R_mono HO384.out (fun _ hk => hk.2)), (by (with_reducible repeat (first | apply Kd.R_alloc | apply Kd.R_drewN | apply Kd.R_drew)); exact Kd.R_mono HO389.out (fun _ hk => ⟨hk.1.2, ⟨hk.2, hk.1.1⟩⟩)), (by (with_reducible repeat (first | apply Kd.R_alloc | apply Kd.R_drewN | apply Kd.R_drew)); exact Kd.R_mono HO392.out (fun _ hk => ⟨hk.1.2, ⟨hk.2, hk.1.1⟩⟩)), (by (with_reducible repeat (first | refine blk_drewN ?_ _ | refine blk_drew ?_ | refine blk_alloc ?_ _)); exact BK358.out), (by (with_reducible repeat (first | refine blk_drewN ?_ _ | refine blk_drew ?_ | refine blk_alloc ?_ _)); exact BK359.out), (by (with_reducible repeat (first | refine blk_drewN ?_ _ | refine blk_drew ?_ | refine blk_alloc ?_ _)); exact BK364.out), (by (with_reducible repeat (first | refine blk_drewN ?_ _ | refine blk_drew ?_ | refine blk_alloc ?_ _)); exact BK368.out), (by (with_reducible repeat (first | refine blk_drewN ?_ _ | refine blk_drew ?_ | refine blk_alloc ?_ _)); exact BK381.out), (by (with_reducible repeat (first | refine blk_drewN ?_ _ | refine blk_drew ?_ | refine blk_alloc ?_ _)); exact BK394.out), GW394.out, GE394.out, NB358_394.out, NB394_358.out, NB359_394.out, NB394_359.out, NB364_394.out, NB394_364.out, NB368_394.out, NB394_368.out, NB381_394.out, NB394_381.out, (by repeat (first | (with_reducible first | exact HB.out | apply below_alloc | apply pw_below_drewN | apply below_drew1 | refine below_set ?_ GE358.out | refine below_set ?_ GE359.out | refine below_set ?_ GE364.out | refine below_set ?_ GE368.out | refine below_set ?_ GE381.out | refine below_set ?_ GE394.out) | exact HB.out))⟩)
  ·skip
   refine box_step ?hg (N := 10) ?hd (cs := #[.bool false, .bool false, .slice none 0 0, .slice none 0 0]) (t := 30) ?hr ?_; (case hd => rfl); (case hg => rfl); (case hr => first | (go_simp; done) | (go_simp; rfl))
   intro gb394 hg w45 hbox hb
   have n0_ := Aside0.mk (Kd.R_below (by (with_reducible repeat (first | apply Kd.R_alloc | apply Kd.R_drewN | apply Kd.R_drew)); exact HO371.out) hb)
   have n1_ := Aside0.mk (Kd.R_below (by (with_reducible repeat (first | apply Kd.R_alloc | apply Kd.R_drewN | apply Kd.R_drew)); exact HO376.out) hb)
   have n2_ := Aside0.mk (Kd.R_below (by (with_reducible repeat (first | apply Kd.R_alloc | apply Kd.R_drewN | apply Kd.R_drew)); exact HO379.out) hb)
   have n3_ := Aside0.mk (blk_below (g := gb358) (o := .cells #[.int .u8 a0_0, .int .u8 a0_1, .int .u8 a0_2] 39 (0, 0)) (by (with_reducible repeat (first | refine blk_drewN ?_ _ | refine blk_drew ?_ | refine blk_alloc ?_ _)); exact BK358.out) hb)
   have n4_ := Aside0.mk (blk_below (g := gb359) (o := .cells #[.int .u8 a1_0, .int .u8 a1_1, .int .u8 a1_2] 39 (0, 0)) (by (with_reducible repeat (first | refine blk_drewN ?_ _ | refine blk_drew ?_ | refine blk_alloc ?_ _)); exact BK359.out) hb)
   have n5_ := Aside0.mk (blk_below (g := gb364) (o := .cells #[.int .i64 t361, .int .i64 t362, .int .i64 t363] 23 (0, 0)) (by (with_reducible repeat (first | refine blk_drewN ?_ _ | refine blk_drew ?_ | refine blk_alloc ?_ _)); exact BK364.out) hb)
   have n6_ := Aside0.mk (blk_below (g := gb368) (o := .cells #[.int .i64 t365, .int .i64 t362, .int .i64 t367] 23 (0, 0)) (by (with_reducible repeat (first | refine blk_drewN ?_ _ | refine blk_drew ?_ | refine blk_alloc ?_ _)); exact BK368.out) hb)
   have n7_ := Aside0.mk (blk_below (g := gb381) (o := .cells #[.bool t372, .bool t373, .slice Ao39 t374.length co39, .slice Ao41 t377.length co41] 30 (0, 0)) (by (with_reducible repeat (first | refine blk_drewN ?_ _ | refine blk_drew ?_ | refine blk_alloc ?_ _)); exact BK381.out) hb)
   have n8_ := Aside0.mk (below_step (by repeat (first | (with_reducible first | exact HB.out | apply below_alloc | apply pw_below_drewN | apply below_drew1 | refine below_set ?_ GE358.out | refine below_set ?_ GE359.out | refine below_set ?_ GE364.out | refine below_set ?_ GE368.out | refine below_set ?_ GE381.out) | exact HB.out)) hb)
   have n9_ := Aside0.mk (hbox)
   have n10_ := Aside0.mk ((by rw [hg]; exact (below_size (by repeat (first | (with_reducible first | exact HB.out | apply below_alloc | apply pw_below_drewN | apply below_drew1 | refine below_set ?_ GE358.out | refine below_set ?_ GE359.out | refine below_set ?_ GE364.out | refine below_set ?_ GE368.out | refine below_set ?_ GE381.out) | exact HB.out))) : w.heap.size ≤ gb394))
   have n11_ := Aside0.mk ((by rw [hg]; exact (below_size (by repeat (first | (with_reducible first | exact HB.out | apply below_alloc | apply pw_below_drewN | apply below_drew1 | refine below_set ?_ GE358.out | refine below_set ?_ GE359.out | refine below_set ?_ GE364.out | refine below_set ?_ GE368.out | refine below_set ?_ GE381.out) | exact HB.out))) : w.heap.size ≤ gb394))
   have n12_ := Aside0.mk ((by rw [hg]; exact Nat.ne_of_lt (blk_lt (g := gb358) (o := .cells #[.int .u8 a0_0, .int .u8 a0_1, .int .u8 a0_2] 39 (0, 0)) (by (with_reducible repeat (first | refine blk_drewN ?_ _ | refine blk_drew ?_ | refine blk_alloc ?_ _)); exact BK358.out)) : gb358 ≠ gb394))
   have n13_ := Aside0.mk ((by rw [hg]; exact Nat.ne_of_gt (blk_lt (g := gb358) (o := .cells #[.int .u8 a0_0, .int .u8 a0_1, .int .u8 a0_2] 39 (0, 0)) (by (with_reducible repeat (first | refine blk_drewN ?_ _ | refine blk_drew ?_ | refine blk_alloc ?_ _)); exact BK358.out)) : gb394 ≠ gb358))
   have n14_ := Aside0.mk ((by rw [hg]; exact Nat.ne_of_lt (blk_lt (g := gb359) (o := .cells #[.int .u8 a1_0, .int .u8 a1_1, .int .u8 a1_2] 39 (0, 0)) (by (with_reducible repeat (first | refine blk_drewN ?_ _ | refine blk_drew ?_ | refine blk_alloc ?_ _)); exact BK359.out)) : gb359 ≠ gb394))
   have n15_ := Aside0.mk ((by rw [hg]; exact Nat.ne_of_gt (blk_lt (g := gb359) (o := .cells #[.int .u8 a1_0, .int .u8 a1_1, .int .u8 a1_2] 39 (0, 0)) (by (with_reducible repeat (first | refine blk_drewN ?_ _ | refine blk_drew ?_ | refine blk_alloc ?_ _)); exact BK359.out)) : gb394 ≠ gb359))
   have n16_ := Aside0.mk ((by rw [hg]; exact Nat.ne_of_lt (blk_lt (g := gb364) (o := .cells #[.int .i64 t361, .int .i64 t362, .int .i64 t363] 23 (0, 0)) (by (with_reducible repeat (first | refine blk_drewN ?_ _ | refine blk_drew ?_ | refine blk_alloc ?_ _)); exact BK364.out)) : gb364 ≠ gb394))
   have n17_ := Aside0.mk ((by rw [hg]; exact Nat.ne_of_gt (blk_lt (g := gb364) (o := .cells #[.int .i64 t361, .int .i64 t362, .int .i64 t363] 23 (0, 0)) (by (with_reducible repeat (first | refine blk_drewN ?_ _ | refine blk_drew ?_ | refine blk_alloc ?_ _)); exact BK364.out)) : gb394 ≠ gb364))
   have n18_ := Aside0.mk ((by rw [hg]; exact Nat.ne_of_lt (blk_lt (g := gb368) (o := .cells #[.int .i64 t365, .int .i64 t362, .int .i64 t367] 23 (0, 0)) (by (with_reducible repeat (first | refine blk_drewN ?_ _ | refine blk_drew ?_ | refine blk_alloc ?_ _)); exact BK368.out)) : gb368 ≠ gb394))
   have n19_ := Aside0.mk ((by rw [hg]; exact Nat.ne_of_gt (blk_lt (g := gb368) (o := .cells #[.int .i64 t365, .int .i64 t362, .int .i64 t367] 23 (0, 0)) (by (with_reducible repeat (first | refine blk_drewN ?_ _ | refine blk_drew ?_ | refine blk_alloc ?_ _)); exact BK368.out)) : gb394 ≠ gb368))
   have n20_ := Aside0.mk ((by rw [hg]; exact Nat.ne_of_lt (blk_lt (g := gb381) (o := .cells #[.bool t372, .bool t373, .slice Ao39 t374.length co39, .slice Ao41 t377.length co41] 30 (0, 0)) (by (with_reducible repeat (first | refine blk_drewN ?_ _ | refine blk_drew ?_ | refine blk_alloc ?_ _)); exact BK381.out)) : gb381 ≠ gb394))
   have n21_ := Aside0.mk ((by rw [hg]; exact Nat.ne_of_gt (blk_lt (g := gb381) (o := .cells #[.bool t372, .bool t373, .slice Ao39 t374.length co39, .slice Ao41 t377.length co41] 30 (0, 0)) (by (with_reducible repeat (first | refine blk_drewN ?_ _ | refine blk_drew ?_ | refine blk_alloc ?_ _)); exact BK381.out)) : gb394 ≠ gb381))
   clear HO371
   clear HO376
   clear HO379
   clear BK358
   clear BK359
   clear BK364
   clear BK368
   clear BK381
   clear HB
   have HO371 := n0_
   have HO376 := n1_
   have HO379 := n2_
   have BK358 := n3_
   have BK359 := n4_
   have BK364 := n5_
   have BK368 := n6_
   have BK381 := n7_
   have HB := n8_
   have BK394 := n9_
   have GW394 := n10_
   have GE394 := n11_
   have NB358_394 := n12_
   have NB394_358 := n13_
   have NB359_394 := n14_
   have NB394_359 := n15_
   have NB364_394 := n16_
   have NB394_364 := n17_
   have NB368_394 := n18_
   have NB394_368 := n19_
   have NB381_394 := n20_
   have NB394_381 := n21_
   clear n0_ n1_ n2_ n3_ n4_ n5_ n6_ n7_ n8_ n9_ n10_ n11_ n12_ n13_ n14_ n15_ n16_ n17_ n18_ n19_ n20_ n21_
   clear hb hbox hg
   refine hK.out _ _ ⟨(blk_cell BK364.out 0).trans rfl, (blk_cell BK364.out 1).trans rfl, (blk_cell BK364.out 2).trans rfl⟩ (fun hHeld => ?_)
   clear hK K
   refine norm_ (a' := ?_) ?_ ?_
   rotate_left
   ·show Act.put _ (some 10) _ = _
    simp only [Act.put, List.setIfInBounds_toArray, List.set_cons_zero, List.set_cons_succ, i64_w, i32_w]
    rfl
   refine one_ (i := 2) (N := some 33) #[true, true, true, true, false, false, false, false, true, false, false] rfl rfl (one_of HT_.out (by kernel_rfl)) (by decide) (fun K hK => ?_)
   refine goes_ Tryd.func12 (by kernel_rfl) rfl #[.agg #[.int .i64 t361, .int .i64 t362, .int .i64 t363], .int .u8 15, .int .u8 0] (by rfl) rfl rfl (by (try simp only [List.map_toArray, List.map_cons, List.map_nil]); first | done | rfl | (simp only [List.length_drop, List.length_take]; rfl)) ?_
   with_reducible refine (gambrellaw22_states.calls k t361 t362 t363 15 0 t382 _ A8.out).mono ?_
   rintro e w46 ⟨v383, rfl, ho0, hb⟩
   refine ⟨_, rfl, ?_⟩
   have n0_ := Aside0.mk (Kd.R_elder' (by (with_reducible repeat (first | apply Kd.R_alloc | apply Kd.R_drewN | apply Kd.R_drew)); exact HO371.out) (Kd.R_base ho0) hb)
   have n1_ := Aside0.mk (Kd.R_below (by (with_reducible repeat (first | apply Kd.R_alloc | apply Kd.R_drewN | apply Kd.R_drew)); exact HO376.out) hb)
   have n2_ := Aside0.mk (Kd.R_below (by (with_reducible repeat (first | apply Kd.R_alloc | apply Kd.R_drewN | apply Kd.R_drew)); exact HO379.out) hb)
   have n3_ := Aside0.mk (Kd.R_lower (Kd.R_new' ho0 (Kd.R_lt (by (with_reducible repeat (first | apply Kd.R_alloc | apply Kd.R_drewN | apply Kd.R_drew)); exact HO371.out))) (below_size (by repeat (first | (with_reducible first | exact HB.out | apply below_alloc | apply pw_below_drewN | apply below_drew1 | refine below_set ?_ GE358.out | refine below_set ?_ GE359.out | refine below_set ?_ GE364.out | refine below_set ?_ GE368.out | refine below_set ?_ GE381.out | refine below_set ?_ GE394.out) | exact HB.out))))
   have n4_ := Aside0.mk (blk_below (g := gb358) (o := .cells #[.int .u8 a0_0, .int .u8 a0_1, .int .u8 a0_2] 39 (0, 0)) (by (with_reducible repeat (first | refine blk_drewN ?_ _ | refine blk_drew ?_ | refine blk_alloc ?_ _)); exact BK358.out) hb)
   have n5_ := Aside0.mk (blk_below (g := gb359) (o := .cells #[.int .u8 a1_0, .int .u8 a1_1, .int .u8 a1_2] 39 (0, 0)) (by (with_reducible repeat (first | refine blk_drewN ?_ _ | refine blk_drew ?_ | refine blk_alloc ?_ _)); exact BK359.out) hb)
   have n6_ := Aside0.mk (blk_below (g := gb364) (o := .cells #[.int .i64 t361, .int .i64 t362, .int .i64 t363] 23 (0, 0)) (by (with_reducible repeat (first | refine blk_drewN ?_ _ | refine blk_drew ?_ | refine blk_alloc ?_ _)); exact BK364.out) hb)
   have n7_ := Aside0.mk (blk_below (g := gb368) (o := .cells #[.int .i64 t365, .int .i64 t362, .int .i64 t367] 23 (0, 0)) (by (with_reducible repeat (first | refine blk_drewN ?_ _ | refine blk_drew ?_ | refine blk_alloc ?_ _)); exact BK368.out) hb)
   have n8_ := Aside0.mk (blk_below (g := gb381) (o := .cells #[.bool t372, .bool t373, .slice Ao39 t374.length co39, .slice Ao41 t377.length co41] 30 (0, 0)) (by (with_reducible repeat (first | refine blk_drewN ?_ _ | refine blk_drew ?_ | refine blk_alloc ?_ _)); exact BK381.out) hb)
   have n9_ := Aside0.mk (blk_below (g := gb394) (o := .cells #[.bool false, .bool false, .slice none 0 0, .slice none 0 0] 30 (0, 0)) (by (with_reducible repeat (first | refine blk_drewN ?_ _ | refine blk_drew ?_ | refine blk_alloc ?_ _)); exact BK394.out) hb)
   have n10_ := Aside0.mk (below_step (by repeat (first | (with_reducible first | exact HB.out | apply below_alloc | apply pw_below_drewN | apply below_drew1 | refine below_set ?_ GE358.out | refine below_set ?_ GE359.out | refine below_set ?_ GE364.out | refine below_set ?_ GE368.out | refine below_set ?_ GE381.out | refine below_set ?_ GE394.out) | exact HB.out)) hb)
   clear HO371
   clear HO376
   clear HO379
   clear BK358
   clear BK359
   clear BK364
   clear BK368
   clear BK381
   clear BK394
   clear HB
   have HO371 := n0_
   have HO376 := n1_
   have HO379 := n2_
   have HO384 := n3_
   have BK358 := n4_
   have BK359 := n5_
   have BK364 := n6_
   have BK368 := n7_
   have BK381 := n8_
   have BK394 := n9_
   have HB := n10_
   clear n0_ n1_ n2_ n3_ n4_ n5_ n6_ n7_ n8_ n9_ n10_
   (try clear hb)
   (try clear hb2)
   (try clear hk)
   (try clear hi)
   (try clear ho0)
   obtain ⟨Ao47, co47, eo47⟩ := Kd.R_slice HO384.out
   (first | subst eo47 | (injection eo47 with f1_ f2_ f3_; have f4_ := f1_.symm; have f5_ := f3_.symm; clear f1_ f2_ f3_; subst f4_; subst f5_))
   refine hK.out _ _ ⟨(blk_cell BK364.out 0).trans rfl, (blk_cell BK364.out 1).trans rfl, (blk_cell BK364.out 2).trans rfl⟩ (fun hHeld => ?_)
   clear hK K
   refine norm_ (a' := ?_) ?_ ?_
   rotate_left
   ·show Act.put _ (some 33) _ = _
    simp only [Act.put, List.setIfInBounds_toArray, List.set_cons_zero, List.set_cons_succ, i64_w, i32_w]
    rfl
   refine one_ (i := 4) (N := some 35) #[true, true, true, true, true, false, false, false, true, false, false] rfl rfl (one_of HT_.out (by kernel_rfl)) (by decide) (fun K hK => ?_)
   refine goes_ Tryd.func8 (by kernel_rfl) rfl #[.string (⟨#[97, 98, 99]⟩ : ByteArray), .agg #[.int .i64 t361, .int .i64 t362, .int .i64 t363], .slice Ao47 t382.length co47, .agg #[.int .i64 t361, .int .i64 t362, .int .i64 t363]] (by rfl) rfl rfl (by (try simp only [List.map_toArray, List.map_cons, List.map_nil]); first | done | rfl | (simp only [List.length_drop, List.length_take]; rfl)) ?_
   with_reducible refine (plan_Of.calls k (⟨#[97, 98, 99]⟩ : ByteArray) t361 t362 t363 _ _ t382 t361 t362 t363 t385 t386 t387 t390 t393 _ ?side1 ?side2 A9.out).mono ?_
   (case side1 => repeat (first | exact (Kd.R_reads' HO384.out).2.2 | (with_reducible refine Kd.C_alloc ?_ _) | (with_reducible refine Kd.C_drewN ?_ _) | (with_reducible refine Kd.C_drew ?_)))
   (case side2 => exact (Kd.R_reads' HO384.out).2.1)
   rintro e w48 ⟨v388, v391, rfl, ho0, ho1, hb⟩
   refine ⟨_, rfl, ?_⟩
   have n0_ := Aside0.mk (Kd.R_below (by (with_reducible repeat (first | apply Kd.R_alloc | apply Kd.R_drewN | apply Kd.R_drew)); exact HO371.out) hb)
   have n1_ := Aside0.mk (Kd.R_mono (Kd.R_told (Kd.R_told (Kd.R_old (by (with_reducible repeat (first | apply Kd.R_alloc | apply Kd.R_drewN | apply Kd.R_drew)); exact HO376.out) hb) (Kd.R_base ho0)) (Kd.R_base ho1)) (fun _ h_ => h_.1))
   have n2_ := Aside0.mk (Kd.R_mono (Kd.R_told (Kd.R_told (Kd.R_old (by (with_reducible repeat (first | apply Kd.R_alloc | apply Kd.R_drewN | apply Kd.R_drew)); exact HO379.out) hb) (Kd.R_base ho0)) (Kd.R_base ho1)) (fun _ h_ => h_.1))
   have n3_ := Aside0.mk (Kd.R_below (by (with_reducible repeat (first | apply Kd.R_alloc | apply Kd.R_drewN | apply Kd.R_drew)); exact HO384.out) hb)
   have n4_ := Aside0.mk (Kd.R_lower (Kd.R_new' (Kd.R_new' ho0 (Kd.R_lt (by (with_reducible repeat (first | apply Kd.R_alloc | apply Kd.R_drewN | apply Kd.R_drew)); exact HO376.out))) (Kd.R_lt (by (with_reducible repeat (first | apply Kd.R_alloc | apply Kd.R_drewN | apply Kd.R_drew)); exact HO379.out))) (below_size (by repeat (first | (with_reducible first | exact HB.out | apply below_alloc | apply pw_below_drewN | apply below_drew1 | refine below_set ?_ GE358.out | refine below_set ?_ GE359.out | refine below_set ?_ GE364.out | refine below_set ?_ GE368.out | refine below_set ?_ GE381.out | refine below_set ?_ GE394.out) | exact HB.out))))
   have n5_ := Aside0.mk (Kd.R_lower (Kd.R_new' (Kd.R_new' ho1 (Kd.R_lt (by (with_reducible repeat (first | apply Kd.R_alloc | apply Kd.R_drewN | apply Kd.R_drew)); exact HO376.out))) (Kd.R_lt (by (with_reducible repeat (first | apply Kd.R_alloc | apply Kd.R_drewN | apply Kd.R_drew)); exact HO379.out))) (below_size (by repeat (first | (with_reducible first | exact HB.out | apply below_alloc | apply pw_below_drewN | apply below_drew1 | refine below_set ?_ GE358.out | refine below_set ?_ GE359.out | refine below_set ?_ GE364.out | refine below_set ?_ GE368.out | refine below_set ?_ GE381.out | refine below_set ?_ GE394.out) | exact HB.out))))
   have n6_ := Aside0.mk (blk_below (g := gb358) (o := .cells #[.int .u8 a0_0, .int .u8 a0_1, .int .u8 a0_2] 39 (0, 0)) (by (with_reducible repeat (first | refine blk_drewN ?_ _ | refine blk_drew ?_ | refine blk_alloc ?_ _)); exact BK358.out) hb)
   have n7_ := Aside0.mk (blk_below (g := gb359) (o := .cells #[.int .u8 a1_0, .int .u8 a1_1, .int .u8 a1_2] 39 (0, 0)) (by (with_reducible repeat (first | refine blk_drewN ?_ _ | refine blk_drew ?_ | refine blk_alloc ?_ _)); exact BK359.out) hb)
   have n8_ := Aside0.mk (blk_below (g := gb364) (o := .cells #[.int .i64 t361, .int .i64 t362, .int .i64 t363] 23 (0, 0)) (by (with_reducible repeat (first | refine blk_drewN ?_ _ | refine blk_drew ?_ | refine blk_alloc ?_ _)); exact BK364.out) hb)
   have n9_ := Aside0.mk (blk_below (g := gb368) (o := .cells #[.int .i64 t365, .int .i64 t362, .int .i64 t367] 23 (0, 0)) (by (with_reducible repeat (first | refine blk_drewN ?_ _ | refine blk_drew ?_ | refine blk_alloc ?_ _)); exact BK368.out) hb)
   have n10_ := Aside0.mk (blk_below (g := gb381) (o := .cells #[.bool t372, .bool t373, .slice Ao39 t374.length co39, .slice Ao41 t377.length co41] 30 (0, 0)) (by (with_reducible repeat (first | refine blk_drewN ?_ _ | refine blk_drew ?_ | refine blk_alloc ?_ _)); exact BK381.out) hb)
   have n11_ := Aside0.mk (blk_below (g := gb394) (o := .cells #[.bool false, .bool false, .slice none 0 0, .slice none 0 0] 30 (0, 0)) (by (with_reducible repeat (first | refine blk_drewN ?_ _ | refine blk_drew ?_ | refine blk_alloc ?_ _)); exact BK394.out) hb)
   have n12_ := Aside0.mk (below_step (by repeat (first | (with_reducible first | exact HB.out | apply below_alloc | apply pw_below_drewN | apply below_drew1 | refine below_set ?_ GE358.out | refine below_set ?_ GE359.out | refine below_set ?_ GE364.out | refine below_set ?_ GE368.out | refine below_set ?_ GE381.out | refine below_set ?_ GE394.out) | exact HB.out)) hb)
   clear HO371
   clear HO376
   clear HO379
   clear HO384
   clear BK358
   clear BK359
   clear BK364
   clear BK368
   clear BK381
   clear BK394
   clear HB
   have HO371 := n0_
   have HO376 := n1_
   have HO379 := n2_
   have HO384 := n3_
   have HO389 := n4_
   have HO392 := n5_
   have BK358 := n6_
   have BK359 := n7_
   have BK364 := n8_
   have BK368 := n9_
   have BK381 := n10_
   have BK394 := n11_
   have HB := n12_
   clear n0_ n1_ n2_ n3_ n4_ n5_ n6_ n7_ n8_ n9_ n10_ n11_ n12_
   (try clear hb)
   (try clear hb2)
   (try clear hk)
   (try clear hi)
   (try clear ho0)
   (try clear ho1)
   refine hK.out _ _ ⟨(blk_cell BK364.out 0).trans rfl, (blk_cell BK364.out 1).trans rfl, (blk_cell BK364.out 2).trans rfl⟩ (fun hHeld => ?_)
   clear hK K
   refine norm_ (a' := ?_) ?_ ?_
   rotate_left
   ·show Act.put _ (some 35) _ = _
    simp only [Act.put, List.setIfInBounds_toArray, List.set_cons_zero, List.set_cons_succ, i64_w, i32_w]
    rfl
   refine pure_ (i := 5) (N := some 30) (v := ?_) (a' := ?_) #[true, true, true, true, true, true, false, false, true, false, false] rfl rfl (any_of HT_.out (by kernel_rfl)) (fun _ _ _ h => h) (Or.inl ⟨by rfl, ?_⟩) ?_ ?_
   rotate_left
   ·intro w'
    go_simp
    with_reducible rfl
   rotate_left
   ·simp only [Act.put, List.setIfInBounds_toArray, List.set_cons_zero, List.set_cons_succ, i64_w, i32_w]
    rfl
   refine pure_ (i := 6) (N := some 36) (v := ?_) (a' := ?_) #[true, true, true, true, true, true, true, false, true, false, false] rfl rfl (any_of HT_.out (by kernel_rfl)) (fun _ _ _ h => h) (Or.inl ⟨by rfl, ?_⟩) ?_ ?_
   rotate_left
   ·intro w'
    go_simp
    with_reducible rfl
   rotate_left
   ·simp only [Act.put, List.setIfInBounds_toArray, List.set_cons_zero, List.set_cons_succ, i64_w, i32_w]
    rfl
   refine pure_ (i := 7) (N := some 37) (v := ?_) (a' := ?_) #[true, true, true, true, true, true, true, true, true, false, false] rfl rfl (any_of HT_.out (by kernel_rfl)) (fun _ _ _ h => h) (Or.inl ⟨by rfl, ?_⟩) ?_ ?_
   rotate_left
   ·intro w'
    go_simp
    with_reducible rfl
   rotate_left
   ·simp only [Act.put, List.setIfInBounds_toArray, List.set_cons_zero, List.set_cons_succ, i64_w, i32_w]
    rfl
   exact norm_ (by simp only [putAll, Act.put, List.setIfInBounds_toArray, List.set_cons_zero, List.set_cons_succ]) (hCont (.slice Ao47 t382.length co47, v388, v391, gb394) _ ⟨hHeld, (by (with_reducible repeat (first | apply Kd.R_alloc | apply Kd.R_drewN | apply Kd.R_drew)); exact Kd.R_mono HO371.out (fun _ hk => hk.2)), (by (with_reducible repeat (first | apply Kd.R_alloc | apply Kd.R_drewN | apply Kd.R_drew)); exact Kd.R_mono HO376.out (fun _ hk => ⟨hk.1.1, ⟨hk.1.2, hk.2⟩⟩)), (by (with_reducible repeat (first | apply Kd.R_alloc | apply Kd.R_drewN | apply Kd.R_drew)); exact Kd.R_mono HO379.out (fun _ hk => ⟨hk.1.1, ⟨hk.1.2, hk.2⟩⟩)), (by (with_reducible repeat (first | apply Kd.R_alloc | apply Kd.R_drewN | apply Kd.R_drew)); exact Kd.R_mono HO384.out (fun _ hk => hk.2)), (by (with_reducible repeat (first | apply Kd.R_alloc | apply Kd.R_drewN | apply Kd.R_drew)); exact Kd.R_mono HO389.out (fun _ hk => ⟨hk.1.2, ⟨hk.2, hk.1.1⟩⟩)), (by (with_reducible repeat (first | apply Kd.R_alloc | apply Kd.R_drewN | apply Kd.R_drew)); exact Kd.R_mono HO392.out (fun _ hk => ⟨hk.1.2, ⟨hk.2, hk.1.1⟩⟩)), (by (with_reducible repeat (first | refine blk_drewN ?_ _ | refine blk_drew ?_ | refine blk_alloc ?_ _)); exact BK358.out), (by (with_reducible repeat (first | refine blk_drewN ?_ _ | refine blk_drew ?_ | refine blk_alloc ?_ _)); exact BK359.out), (by (with_reducible repeat (first | refine blk_drewN ?_ _ | refine blk_drew ?_ | refine blk_alloc ?_ _)); exact BK364.out), (by (with_reducible repeat (first | refine blk_drewN ?_ _ | refine blk_drew ?_ | refine blk_alloc ?_ _)); exact BK368.out), (by (with_reducible repeat (first | refine blk_drewN ?_ _ | refine blk_drew ?_ | refine blk_alloc ?_ _)); exact BK381.out), (by (with_reducible repeat (first | refine blk_drewN ?_ _ | refine blk_drew ?_ | refine blk_alloc ?_ _)); exact BK394.out), GW394.out, GE394.out, NB358_394.out, NB394_358.out, NB359_394.out, NB394_359.out, NB364_394.out, NB394_364.out, NB368_394.out, NB394_368.out, NB381_394.out, NB394_381.out, (by repeat (first | (with_reducible first | exact HB.out | apply below_alloc | apply pw_below_drewN | apply below_drew1 | refine below_set ?_ GE358.out | refine below_set ?_ GE359.out | refine below_set ?_ GE364.out | refine below_set ?_ GE368.out | refine below_set ?_ GE381.out | refine below_set ?_ GE394.out) | exact HB.out))⟩)
 rintro ⟨v383, v388, v391, gb394⟩ w49 ⟨hS_, h0_, h1_, h2_, h3_, h4_, h5_, h6_, h7_, h8_, h9_, h10_, h11_, h12_, h13_, h14_, h15_, h16_, h17_, h18_, h19_, h20_, h21_, h22_, h23_, h24_⟩
 have n0_ : Aside0 (Kd.R (Kd.int .i64) 3 w49 w.heap.size (fun k_ => some k_ ≠ (v383 : Value).ownBlock) v370 t369) := ⟨h0_⟩
 have n1_ : Aside0 (Kd.R Kd.string 9 w49 w.heap.size (fun k_ => some k_ ≠ (.slice Ao41 t377.length co41 : Value).ownBlock ∧ some k_ ≠ (v388 : Value).ownBlock ∧ some k_ ≠ (v391 : Value).ownBlock) (.slice Ao39 t374.length co39) t374) := ⟨h1_⟩
 have n2_ : Aside0 (Kd.R Kd.string 9 w49 w.heap.size (fun k_ => some k_ ≠ (.slice Ao39 t374.length co39 : Value).ownBlock ∧ some k_ ≠ (v388 : Value).ownBlock ∧ some k_ ≠ (v391 : Value).ownBlock) (.slice Ao41 t377.length co41) t377) := ⟨h2_⟩
 have n3_ : Aside0 (Kd.R (Kd.int .i64) 3 w49 w.heap.size (fun k_ => some k_ ≠ (v370 : Value).ownBlock) v383 t382) := ⟨h3_⟩
 have n4_ : Aside0 (Kd.R Kd.string 9 w49 w.heap.size (fun k_ => some k_ ≠ (.slice Ao39 t374.length co39 : Value).ownBlock ∧ some k_ ≠ (.slice Ao41 t377.length co41 : Value).ownBlock ∧ some k_ ≠ (v391 : Value).ownBlock) v388 t387) := ⟨h4_⟩
 have n5_ : Aside0 (Kd.R Kd.string 9 w49 w.heap.size (fun k_ => some k_ ≠ (.slice Ao39 t374.length co39 : Value).ownBlock ∧ some k_ ≠ (.slice Ao41 t377.length co41 : Value).ownBlock ∧ some k_ ≠ (v388 : Value).ownBlock) v391 t390) := ⟨h5_⟩
 have n6_ : Aside0 (w49.heap[gb358]? = some (.cells #[.int .u8 a0_0, .int .u8 a0_1, .int .u8 a0_2] 39 (0, 0))) := ⟨h6_⟩
 have n7_ : Aside0 (w49.heap[gb359]? = some (.cells #[.int .u8 a1_0, .int .u8 a1_1, .int .u8 a1_2] 39 (0, 0))) := ⟨h7_⟩
 have n8_ : Aside0 (w49.heap[gb364]? = some (.cells #[.int .i64 t361, .int .i64 t362, .int .i64 t363] 23 (0, 0))) := ⟨h8_⟩
 have n9_ : Aside0 (w49.heap[gb368]? = some (.cells #[.int .i64 t365, .int .i64 t362, .int .i64 t367] 23 (0, 0))) := ⟨h9_⟩
 have n10_ : Aside0 (w49.heap[gb381]? = some (.cells #[.bool t372, .bool t373, .slice Ao39 t374.length co39, .slice Ao41 t377.length co41] 30 (0, 0))) := ⟨h10_⟩
 have n11_ : Aside0 (w49.heap[gb394]? = some (.cells #[.bool false, .bool false, .slice none 0 0, .slice none 0 0] 30 (0, 0))) := ⟨h11_⟩
 have n12_ : Aside0 (w.heap.size ≤ gb394) := ⟨h12_⟩
 have n13_ : Aside0 (w.heap.size ≤ gb394) := ⟨h13_⟩
 have n14_ : Aside0 (gb358 ≠ gb394) := ⟨h14_⟩
 have n15_ : Aside0 (gb394 ≠ gb358) := ⟨h15_⟩
 have n16_ : Aside0 (gb359 ≠ gb394) := ⟨h16_⟩
 have n17_ : Aside0 (gb394 ≠ gb359) := ⟨h17_⟩
 have n18_ : Aside0 (gb364 ≠ gb394) := ⟨h18_⟩
 have n19_ : Aside0 (gb394 ≠ gb364) := ⟨h19_⟩
 have n20_ : Aside0 (gb368 ≠ gb394) := ⟨h20_⟩
 have n21_ : Aside0 (gb394 ≠ gb368) := ⟨h21_⟩
 have n22_ : Aside0 (gb381 ≠ gb394) := ⟨h22_⟩
 have n23_ : Aside0 (gb394 ≠ gb381) := ⟨h23_⟩
 have n24_ : Aside0 (Below w.heap.size w w49) := ⟨h24_⟩
 clear HO371
 clear HO376
 clear HO379
 clear BK358
 clear BK359
 clear BK364
 clear BK368
 clear BK381
 clear HB
 clear h0_ h1_ h2_ h3_ h4_ h5_ h6_ h7_ h8_ h9_ h10_ h11_ h12_ h13_ h14_ h15_ h16_ h17_ h18_ h19_ h20_ h21_ h22_ h23_ h24_
 have HO371 := n0_
 have HO376 := n1_
 have HO379 := n2_
 have HO384 := n3_
 have HO389 := n4_
 have HO392 := n5_
 have BK358 := n6_
 have BK359 := n7_
 have BK364 := n8_
 have BK368 := n9_
 have BK381 := n10_
 have BK394 := n11_
 have GW394 := n12_
 have GE394 := n13_
 have NB358_394 := n14_
 have NB394_358 := n15_
 have NB359_394 := n16_
 have NB394_359 := n17_
 have NB364_394 := n18_
 have NB394_364 := n19_
 have NB368_394 := n20_
 have NB394_368 := n21_
 have NB381_394 := n22_
 have NB394_381 := n23_
 have HB := n24_
 clear n0_ n1_ n2_ n3_ n4_ n5_ n6_ n7_ n8_ n9_ n10_ n11_ n12_ n13_ n14_ n15_ n16_ n17_ n18_ n19_ n20_ n21_ n22_ n23_ n24_
 have hHeld : w49.cell? ⟨gb364, 0, none⟩ = some (.int .i64 t361) ∧ w49.cell? ⟨gb364, 1, none⟩ = some (.int .i64 t362) ∧ w49.cell? ⟨gb364, 2, none⟩ = some (.int .i64 t363) := hS_
 obtain ⟨Ao52, co52, eo52⟩ := Kd.R_slice HO389.out
 (first | subst eo52 | (injection eo52 with f1_ f2_ f3_; have f4_ := f1_.symm; have f5_ := f3_.symm; clear f1_ f2_ f3_; subst f4_; subst f5_))
 obtain ⟨Ao54, co54, eo54⟩ := Kd.R_slice HO392.out
 (first | subst eo54 | (injection eo54 with f1_ f2_ f3_; have f4_ := f1_.symm; have f5_ := f3_.symm; clear f1_ f2_ f3_; subst f4_; subst f5_))
 refine norm_ (a' := ?_) ?_ ?_
 rotate_left
 ·simp only [putAll, Act.put, List.setIfInBounds_toArray, List.set_cons_zero, List.set_cons_succ]
  rfl
 refine one_ (i := 9) (N := none) #[true, true, true, true, true, true, true, true, true, true, false] rfl rfl (one_of HT_.out (by kernel_rfl)) (by decide) (fun K hK => ?_)
 have hs50 : w49.cell? ⟨gb394, 0, none⟩ = some (.bool false) := (blk_cell BK394.out 0).trans rfl
 have hfs50 := blk_frozen BK394.out 0
 have hns50_0 := NB358_394.out
 have hns50_1 := NB359_394.out
 have hns50_2 := NB364_394.out
 have hns50_3 := NB368_394.out
 have hns50_4 := NB381_394.out
 have hms50_0 := NB394_358.out
 have hms50_1 := NB394_359.out
 have hms50_2 := NB394_364.out
 have hms50_3 := NB394_368.out
 have hms50_4 := NB394_381.out
 have hs51 : w49.cell? ⟨gb394, 1, none⟩ = some (.bool false) := (blk_cell BK394.out 1).trans rfl
 have hfs51 := blk_frozen BK394.out 1
 have hns51_0 := NB358_394.out
 have hns51_1 := NB359_394.out
 have hns51_2 := NB364_394.out
 have hns51_3 := NB368_394.out
 have hns51_4 := NB381_394.out
 have hms51_0 := NB394_358.out
 have hms51_1 := NB394_359.out
 have hms51_2 := NB394_364.out
 have hms51_3 := NB394_368.out
 have hms51_4 := NB394_381.out
 have hs53 : w49.cell? ⟨gb394, 2, none⟩ = some (.slice none 0 0) := (blk_cell BK394.out 2).trans rfl
 have hfs53 := blk_frozen BK394.out 2
 have hns53_0 := NB358_394.out
 have hns53_1 := NB359_394.out
 have hns53_2 := NB364_394.out
 have hns53_3 := NB368_394.out
 have hns53_4 := NB381_394.out
 have hms53_0 := NB394_358.out
 have hms53_1 := NB394_359.out
 have hms53_2 := NB394_364.out
 have hms53_3 := NB394_368.out
 have hms53_4 := NB394_381.out
 have hs55 : w49.cell? ⟨gb394, 3, none⟩ = some (.slice none 0 0) := (blk_cell BK394.out 3).trans rfl
 have hfs55 := blk_frozen BK394.out 3
 have hns55_0 := NB358_394.out
 have hns55_1 := NB359_394.out
 have hns55_2 := NB364_394.out
 have hns55_3 := NB368_394.out
 have hns55_4 := NB381_394.out
 have hms55_0 := NB394_358.out
 have hms55_1 := NB394_359.out
 have hms55_2 := NB394_364.out
 have hms55_3 := NB394_368.out
 have hms55_4 := NB394_381.out
 refine skip_ (w1 := ?_) (by rfl) rfl ?_ ?_
 rotate_left
 ·go_simp
  rfl
 refine hK.out _ _ ⟨((cell_far (p := ⟨gb394, _, none⟩) NB364_394.out _).trans (((cell_far (p := ⟨gb394, _, none⟩) NB364_394.out _).trans (((cell_far (p := ⟨gb394, _, none⟩) NB364_394.out _).trans (((cell_far (p := ⟨gb394, _, none⟩) NB364_394.out _).trans (hHeld.1)))))))), ((cell_far (p := ⟨gb394, _, none⟩) NB364_394.out _).trans (((cell_far (p := ⟨gb394, _, none⟩) NB364_394.out _).trans (((cell_far (p := ⟨gb394, _, none⟩) NB364_394.out _).trans (((cell_far (p := ⟨gb394, _, none⟩) NB364_394.out _).trans (hHeld.2.1)))))))), ((cell_far (p := ⟨gb394, _, none⟩) NB364_394.out _).trans (((cell_far (p := ⟨gb394, _, none⟩) NB364_394.out _).trans (((cell_far (p := ⟨gb394, _, none⟩) NB364_394.out _).trans (((cell_far (p := ⟨gb394, _, none⟩) NB364_394.out _).trans (hHeld.2.2))))))))⟩ (fun hHeld => ?_)
 clear hK K
 refine pure_ (i := 10) (N := some 11) (v := ?_) (a' := ?_) #[true, true, true, true, true, true, true, true, true, true, true] rfl rfl (any_of HT_.out (by kernel_rfl)) (fun _ _ _ h => h) (Or.inl ⟨by rfl, ?_⟩) ?_ ?_
 rotate_left
 ·intro w'
  go_simp
  with_reducible rfl
 rotate_left
 ·simp only [Act.put, List.setIfInBounds_toArray, List.set_cons_zero, List.set_cons_succ, i64_w, i32_w]
  rfl
 refine done_ (done_of HT_.out (by kernel_rfl)) ?_
 have hnb56 := NB368_381.out
 have hnc56 := NB381_368.out
 have hnb57 := NB368_394.out
 have hnc57 := NB394_368.out
 have hcz58_0 : w49.cell? ⟨gb368, 0, none⟩ = some (.int .i64 t365) := (blk_cell BK368.out 0).trans rfl
 have hcz58_1 : w49.cell? ⟨gb368, 1, none⟩ = some (.int .i64 t362) := (blk_cell BK368.out 1).trans rfl
 have hcz58_2 : w49.cell? ⟨gb368, 2, none⟩ = some (.int .i64 t367) := (blk_cell BK368.out 2).trans rfl
 have hfz58_0 := blk_frozen BK368.out 0
 have hfz58_1 := blk_frozen BK368.out 1
 have hfz58_2 := blk_frozen BK368.out 2
 go_upto_region 8 with (first | ((with_reducible refine gate_callee (f := 13) rfl ?_); refine goesL_ (some 40) rfl rfl Tryd.func13 (by kernel_rfl) rfl #[.string (⟨#[97, 98, 99]⟩ : ByteArray), .agg #[.int .i64 t365, .int .i64 t362, .int .i64 t367]] rfl (by (try simp only [List.map_toArray, List.map_cons, List.map_nil]); first | done | rfl | (simp only [List.length_drop, List.length_take]; rfl)) ?_; (with_reducible refine (gambrelref15_Set.calls k (⟨#[97, 98, 99]⟩ : ByteArray) t365 t362 t367 t395 t398 _ A10.out).mono ?_); rintro e w59 ⟨v396, rfl, ho0, hb⟩; refine ⟨_, rfl, ?_⟩; have n0_ := Aside0.mk (Kd.R_below (by (with_reducible repeat (first | apply Kd.R_alloc | apply Kd.R_drewN | apply Kd.R_drew)); exact (Kd.R_mono (Kd.R_far (p := ⟨gb394, 3, none⟩) (Kd.R_far (p := ⟨gb394, 2, none⟩) (Kd.R_far (p := ⟨gb394, 1, none⟩) (Kd.R_far (p := ⟨gb394, 0, none⟩) (Kd.R_types HO371.out BK394.out (by decide)) (fun _ hk => hk.2) (.bool t385)) (fun _ hk => hk.2) (.bool t386)) (fun _ hk => hk.2) (.slice Ao52 t387.length co52)) (fun _ hk => hk.2) (.slice Ao54 t390.length co54)) (fun _ h_ => h_.1))) hb); have n1_ := Aside0.mk (Kd.R_elder' (by (with_reducible repeat (first | apply Kd.R_alloc | apply Kd.R_drewN | apply Kd.R_drew)); exact (Kd.R_mono (Kd.R_far (p := ⟨gb394, 3, none⟩) (Kd.R_far (p := ⟨gb394, 2, none⟩) (Kd.R_far (p := ⟨gb394, 1, none⟩) (Kd.R_far (p := ⟨gb394, 0, none⟩) (Kd.R_types HO376.out BK394.out (by decide)) (fun _ hk => hk.2) (.bool t385)) (fun _ hk => hk.2) (.bool t386)) (fun _ hk => hk.2) (.slice Ao52 t387.length co52)) (fun _ hk => hk.2) (.slice Ao54 t390.length co54)) (fun _ h_ => h_.1))) (Kd.R_base ho0) hb); have n2_ := Aside0.mk (Kd.R_elder' (by (with_reducible repeat (first | apply Kd.R_alloc | apply Kd.R_drewN | apply Kd.R_drew)); exact (Kd.R_mono (Kd.R_far (p := ⟨gb394, 3, none⟩) (Kd.R_far (p := ⟨gb394, 2, none⟩) (Kd.R_far (p := ⟨gb394, 1, none⟩) (Kd.R_far (p := ⟨gb394, 0, none⟩) (Kd.R_types HO379.out BK394.out (by decide)) (fun _ hk => hk.2) (.bool t385)) (fun _ hk => hk.2) (.bool t386)) (fun _ hk => hk.2) (.slice Ao52 t387.length co52)) (fun _ hk => hk.2) (.slice Ao54 t390.length co54)) (fun _ h_ => h_.1))) (Kd.R_base ho0) hb); have n3_ := Aside0.mk (Kd.R_below (by (with_reducible repeat (first | apply Kd.R_alloc | apply Kd.R_drewN | apply Kd.R_drew)); exact (Kd.R_mono (Kd.R_far (p := ⟨gb394, 3, none⟩) (Kd.R_far (p := ⟨gb394, 2, none⟩) (Kd.R_far (p := ⟨gb394, 1, none⟩) (Kd.R_far (p := ⟨gb394, 0, none⟩) (Kd.R_types HO384.out BK394.out (by decide)) (fun _ hk => hk.2) (.bool t385)) (fun _ hk => hk.2) (.bool t386)) (fun _ hk => hk.2) (.slice Ao52 t387.length co52)) (fun _ hk => hk.2) (.slice Ao54 t390.length co54)) (fun _ h_ => h_.1))) hb); have n4_ := Aside0.mk (Kd.R_elder' (by (with_reducible repeat (first | apply Kd.R_alloc | apply Kd.R_drewN | apply Kd.R_drew)); exact (Kd.R_mono (Kd.R_far (p := ⟨gb394, 3, none⟩) (Kd.R_far (p := ⟨gb394, 2, none⟩) (Kd.R_far (p := ⟨gb394, 1, none⟩) (Kd.R_far (p := ⟨gb394, 0, none⟩) (Kd.R_types HO389.out BK394.out (by decide)) (fun _ hk => hk.2) (.bool t385)) (fun _ hk => hk.2) (.bool t386)) (fun _ hk => hk.2) (.slice Ao52 t387.length co52)) (fun _ hk => hk.2) (.slice Ao54 t390.length co54)) (fun _ h_ => h_.1))) (Kd.R_base ho0) hb); have n5_ := Aside0.mk (Kd.R_elder' (by (with_reducible repeat (first | apply Kd.R_alloc | apply Kd.R_drewN | apply Kd.R_drew)); exact (Kd.R_mono (Kd.R_far (p := ⟨gb394, 3, none⟩) (Kd.R_far (p := ⟨gb394, 2, none⟩) (Kd.R_far (p := ⟨gb394, 1, none⟩) (Kd.R_far (p := ⟨gb394, 0, none⟩) (Kd.R_types HO392.out BK394.out (by decide)) (fun _ hk => hk.2) (.bool t385)) (fun _ hk => hk.2) (.bool t386)) (fun _ hk => hk.2) (.slice Ao52 t387.length co52)) (fun _ hk => hk.2) (.slice Ao54 t390.length co54)) (fun _ h_ => h_.1))) (Kd.R_base ho0) hb); have n6_ := Aside0.mk (Kd.R_lower (Kd.R_new' (Kd.R_new' (Kd.R_new' (Kd.R_new' ho0 (Kd.R_lt (by (with_reducible repeat (first | apply Kd.R_alloc | apply Kd.R_drewN | apply Kd.R_drew)); exact (Kd.R_mono (Kd.R_far (p := ⟨gb394, 3, none⟩) (Kd.R_far (p := ⟨gb394, 2, none⟩) (Kd.R_far (p := ⟨gb394, 1, none⟩) (Kd.R_far (p := ⟨gb394, 0, none⟩) (Kd.R_types HO376.out BK394.out (by decide)) (fun _ hk => hk.2) (.bool t385)) (fun _ hk => hk.2) (.bool t386)) (fun _ hk => hk.2) (.slice Ao52 t387.length co52)) (fun _ hk => hk.2) (.slice Ao54 t390.length co54)) (fun _ h_ => h_.1))))) (Kd.R_lt (by (with_reducible repeat (first | apply Kd.R_alloc | apply Kd.R_drewN | apply Kd.R_drew)); exact (Kd.R_mono (Kd.R_far (p := ⟨gb394, 3, none⟩) (Kd.R_far (p := ⟨gb394, 2, none⟩) (Kd.R_far (p := ⟨gb394, 1, none⟩) (Kd.R_far (p := ⟨gb394, 0, none⟩) (Kd.R_types HO379.out BK394.out (by decide)) (fun _ hk => hk.2) (.bool t385)) (fun _ hk => hk.2) (.bool t386)) (fun _ hk => hk.2) (.slice Ao52 t387.length co52)) (fun _ hk => hk.2) (.slice Ao54 t390.length co54)) (fun _ h_ => h_.1))))) (Kd.R_lt (by (with_reducible repeat (first | apply Kd.R_alloc | apply Kd.R_drewN | apply Kd.R_drew)); exact (Kd.R_mono (Kd.R_far (p := ⟨gb394, 3, none⟩) (Kd.R_far (p := ⟨gb394, 2, none⟩) (Kd.R_far (p := ⟨gb394, 1, none⟩) (Kd.R_far (p := ⟨gb394, 0, none⟩) (Kd.R_types HO389.out BK394.out (by decide)) (fun _ hk => hk.2) (.bool t385)) (fun _ hk => hk.2) (.bool t386)) (fun _ hk => hk.2) (.slice Ao52 t387.length co52)) (fun _ hk => hk.2) (.slice Ao54 t390.length co54)) (fun _ h_ => h_.1))))) (Kd.R_lt (by (with_reducible repeat (first | apply Kd.R_alloc | apply Kd.R_drewN | apply Kd.R_drew)); exact (Kd.R_mono (Kd.R_far (p := ⟨gb394, 3, none⟩) (Kd.R_far (p := ⟨gb394, 2, none⟩) (Kd.R_far (p := ⟨gb394, 1, none⟩) (Kd.R_far (p := ⟨gb394, 0, none⟩) (Kd.R_types HO392.out BK394.out (by decide)) (fun _ hk => hk.2) (.bool t385)) (fun _ hk => hk.2) (.bool t386)) (fun _ hk => hk.2) (.slice Ao52 t387.length co52)) (fun _ hk => hk.2) (.slice Ao54 t390.length co54)) (fun _ h_ => h_.1))))) (below_size (by repeat (first | (with_reducible first | exact HB.out | apply below_alloc | apply pw_below_drewN | apply below_drew1 | refine below_set ?_ GE358.out | refine below_set ?_ GE359.out | refine below_set ?_ GE364.out | refine below_set ?_ GE368.out | refine below_set ?_ GE381.out | refine below_set ?_ GE394.out) | exact HB.out)))); have n7_ := Aside0.mk (blk_below (g := gb358) (o := .cells #[.int .u8 a0_0, .int .u8 a0_1, .int .u8 a0_2] 39 (0, 0)) (by (with_reducible repeat (first | refine blk_drewN ?_ _ | refine blk_drew ?_ | refine blk_alloc ?_ _)); refine blk_far ?_ NB358_394.out _; (with_reducible repeat (first | refine blk_drewN ?_ _ | refine blk_drew ?_ | refine blk_alloc ?_ _)); refine blk_far ?_ NB358_394.out _; (with_reducible repeat (first | refine blk_drewN ?_ _ | refine blk_drew ?_ | refine blk_alloc ?_ _)); refine blk_far ?_ NB358_394.out _; (with_reducible repeat (first | refine blk_drewN ?_ _ | refine blk_drew ?_ | refine blk_alloc ?_ _)); refine blk_far ?_ NB358_394.out _; (with_reducible repeat (first | refine blk_drewN ?_ _ | refine blk_drew ?_ | refine blk_alloc ?_ _)); exact BK358.out) hb); have n8_ := Aside0.mk (blk_below (g := gb359) (o := .cells #[.int .u8 a1_0, .int .u8 a1_1, .int .u8 a1_2] 39 (0, 0)) (by (with_reducible repeat (first | refine blk_drewN ?_ _ | refine blk_drew ?_ | refine blk_alloc ?_ _)); refine blk_far ?_ NB359_394.out _; (with_reducible repeat (first | refine blk_drewN ?_ _ | refine blk_drew ?_ | refine blk_alloc ?_ _)); refine blk_far ?_ NB359_394.out _; (with_reducible repeat (first | refine blk_drewN ?_ _ | refine blk_drew ?_ | refine blk_alloc ?_ _)); refine blk_far ?_ NB359_394.out _; (with_reducible repeat (first | refine blk_drewN ?_ _ | refine blk_drew ?_ | refine blk_alloc ?_ _)); refine blk_far ?_ NB359_394.out _; (with_reducible repeat (first | refine blk_drewN ?_ _ | refine blk_drew ?_ | refine blk_alloc ?_ _)); exact BK359.out) hb); have n9_ := Aside0.mk (blk_below (g := gb364) (o := .cells #[.int .i64 t361, .int .i64 t362, .int .i64 t363] 23 (0, 0)) (by (with_reducible repeat (first | refine blk_drewN ?_ _ | refine blk_drew ?_ | refine blk_alloc ?_ _)); refine blk_far ?_ NB364_394.out _; (with_reducible repeat (first | refine blk_drewN ?_ _ | refine blk_drew ?_ | refine blk_alloc ?_ _)); refine blk_far ?_ NB364_394.out _; (with_reducible repeat (first | refine blk_drewN ?_ _ | refine blk_drew ?_ | refine blk_alloc ?_ _)); refine blk_far ?_ NB364_394.out _; (with_reducible repeat (first | refine blk_drewN ?_ _ | refine blk_drew ?_ | refine blk_alloc ?_ _)); refine blk_far ?_ NB364_394.out _; (with_reducible repeat (first | refine blk_drewN ?_ _ | refine blk_drew ?_ | refine blk_alloc ?_ _)); exact BK364.out) hb); have n10_ := Aside0.mk (blk_below (g := gb368) (o := .cells #[.int .i64 t365, .int .i64 t362, .int .i64 t367] 23 (0, 0)) (by (with_reducible repeat (first | refine blk_drewN ?_ _ | refine blk_drew ?_ | refine blk_alloc ?_ _)); refine blk_far ?_ NB368_394.out _; (with_reducible repeat (first | refine blk_drewN ?_ _ | refine blk_drew ?_ | refine blk_alloc ?_ _)); refine blk_far ?_ NB368_394.out _; (with_reducible repeat (first | refine blk_drewN ?_ _ | refine blk_drew ?_ | refine blk_alloc ?_ _)); refine blk_far ?_ NB368_394.out _; (with_reducible repeat (first | refine blk_drewN ?_ _ | refine blk_drew ?_ | refine blk_alloc ?_ _)); refine blk_far ?_ NB368_394.out _; (with_reducible repeat (first | refine blk_drewN ?_ _ | refine blk_drew ?_ | refine blk_alloc ?_ _)); exact BK368.out) hb); have n11_ := Aside0.mk (blk_below (g := gb381) (o := .cells #[.bool t372, .bool t373, .slice Ao39 t374.length co39, .slice Ao41 t377.length co41] 30 (0, 0)) (by (with_reducible repeat (first | refine blk_drewN ?_ _ | refine blk_drew ?_ | refine blk_alloc ?_ _)); refine blk_far ?_ NB381_394.out _; (with_reducible repeat (first | refine blk_drewN ?_ _ | refine blk_drew ?_ | refine blk_alloc ?_ _)); refine blk_far ?_ NB381_394.out _; (with_reducible repeat (first | refine blk_drewN ?_ _ | refine blk_drew ?_ | refine blk_alloc ?_ _)); refine blk_far ?_ NB381_394.out _; (with_reducible repeat (first | refine blk_drewN ?_ _ | refine blk_drew ?_ | refine blk_alloc ?_ _)); refine blk_far ?_ NB381_394.out _; (with_reducible repeat (first | refine blk_drewN ?_ _ | refine blk_drew ?_ | refine blk_alloc ?_ _)); exact BK381.out) hb); have n12_ := Aside0.mk (blk_below (g := gb394) (o := .cells #[.bool t385, .bool t386, .slice Ao52 t387.length co52, .slice Ao54 t390.length co54] 30 (0, 0)) (by (with_reducible repeat (first | refine blk_drewN ?_ _ | refine blk_drew ?_ | refine blk_alloc ?_ _)); refine blk_put (cs := #[.bool t385, .bool t386, .slice Ao52 t387.length co52, .slice none 0 0]) ?_ 3 _ rfl; (with_reducible repeat (first | refine blk_drewN ?_ _ | refine blk_drew ?_ | refine blk_alloc ?_ _)); refine blk_put (cs := #[.bool t385, .bool t386, .slice none 0 0, .slice none 0 0]) ?_ 2 _ rfl; (with_reducible repeat (first | refine blk_drewN ?_ _ | refine blk_drew ?_ | refine blk_alloc ?_ _)); refine blk_put (cs := #[.bool t385, .bool false, .slice none 0 0, .slice none 0 0]) ?_ 1 _ rfl; (with_reducible repeat (first | refine blk_drewN ?_ _ | refine blk_drew ?_ | refine blk_alloc ?_ _)); refine blk_put (cs := #[.bool false, .bool false, .slice none 0 0, .slice none 0 0]) ?_ 0 _ rfl; (with_reducible repeat (first | refine blk_drewN ?_ _ | refine blk_drew ?_ | refine blk_alloc ?_ _)); exact BK394.out) hb); have n13_ := Aside0.mk (below_step (by repeat (first | (with_reducible first | exact HB.out | apply below_alloc | apply pw_below_drewN | apply below_drew1 | refine below_set ?_ GE358.out | refine below_set ?_ GE359.out | refine below_set ?_ GE364.out | refine below_set ?_ GE368.out | refine below_set ?_ GE381.out | refine below_set ?_ GE394.out) | exact HB.out)) hb); clear HO371; clear HO376; clear HO379; clear HO384; clear HO389; clear HO392; clear BK358; clear BK359; clear BK364; clear BK368; clear BK381; clear BK394; clear HB; have HO371 := n0_; have HO376 := n1_; have HO379 := n2_; have HO384 := n3_; have HO389 := n4_; have HO392 := n5_; have HO397 := n6_; have BK358 := n7_; have BK359 := n8_; have BK364 := n9_; have BK368 := n10_; have BK381 := n11_; have BK394 := n12_; have HB := n13_; clear n0_ n1_ n2_ n3_ n4_ n5_ n6_ n7_ n8_ n9_ n10_ n11_ n12_ n13_; (try clear hb); (try clear hb2); (try clear hk); (try clear hi); (try clear ho0)))
 (try simp only [Act.put, List.setIfInBounds_toArray, List.set_cons_zero, List.set_cons_succ])
 go_cut [70] (fun v70 wc => ∃ (kq : Nat) (x70_10 : Bool), v70 = .bool x70_10 ∧ Aside0 (gambrellaw22_PlanParity.j0 kq t360 t395 x70_10 t361 t362 t363 t365 t362 t367 t372 t373 t374 t377 = some r) ∧ Aside0 (kq ≤ k) ∧ Aside0 (Kd.R Kd.string 9 wc w.heap.size (fun k_ => some k_ ≠ ((.slice Ao39 t374.length co39) : Value).ownBlock ∧ some k_ ≠ ((.slice Ao41 t377.length co41) : Value).ownBlock ∧ some k_ ≠ ((.slice Ao52 t387.length co52) : Value).ownBlock ∧ some k_ ≠ ((.slice Ao54 t390.length co54) : Value).ownBlock) v396 t395) ∧ Aside0 (Kd.R Kd.string 9 wc w.heap.size (fun k_ => some k_ ≠ (v396 : Value).ownBlock ∧ some k_ ≠ ((.slice Ao41 t377.length co41) : Value).ownBlock ∧ some k_ ≠ ((.slice Ao52 t387.length co52) : Value).ownBlock ∧ some k_ ≠ ((.slice Ao54 t390.length co54) : Value).ownBlock) (.slice Ao39 t374.length co39) t374) ∧ Aside0 (Kd.R Kd.string 9 wc w.heap.size (fun k_ => some k_ ≠ (v396 : Value).ownBlock ∧ some k_ ≠ ((.slice Ao39 t374.length co39) : Value).ownBlock ∧ some k_ ≠ ((.slice Ao52 t387.length co52) : Value).ownBlock ∧ some k_ ≠ ((.slice Ao54 t390.length co54) : Value).ownBlock) (.slice Ao41 t377.length co41) t377) ∧ Aside0 (Kd.R Kd.string 9 wc w.heap.size (fun k_ => some k_ ≠ (v396 : Value).ownBlock ∧ some k_ ≠ ((.slice Ao39 t374.length co39) : Value).ownBlock ∧ some k_ ≠ ((.slice Ao41 t377.length co41) : Value).ownBlock ∧ some k_ ≠ ((.slice Ao54 t390.length co54) : Value).ownBlock) (.slice Ao52 t387.length co52) t387) ∧ Aside0 (Kd.R Kd.string 9 wc w.heap.size (fun k_ => some k_ ≠ (v396 : Value).ownBlock ∧ some k_ ≠ ((.slice Ao39 t374.length co39) : Value).ownBlock ∧ some k_ ≠ ((.slice Ao41 t377.length co41) : Value).ownBlock ∧ some k_ ≠ ((.slice Ao52 t387.length co52) : Value).ownBlock) (.slice Ao54 t390.length co54) t390) ∧ Aside0 (wc.heap[gb358]? = some (.cells #[.int .u8 a0_0, .int .u8 a0_1, .int .u8 a0_2] 39 (0, 0))) ∧ Aside0 (wc.heap[gb359]? = some (.cells #[.int .u8 a1_0, .int .u8 a1_1, .int .u8 a1_2] 39 (0, 0))) ∧ Aside0 (wc.heap[gb364]? = some (.cells #[.int .i64 t361, .int .i64 t362, .int .i64 t363] 23 (0, 0))) ∧ Aside0 (wc.heap[gb368]? = some (.cells #[.int .i64 t365, .int .i64 t362, .int .i64 t367] 23 (0, 0))) ∧ Aside0 (wc.heap[gb381]? = some (.cells #[.bool t372, .bool t373, (.slice Ao39 t374.length co39), (.slice Ao41 t377.length co41)] 30 (0, 0))) ∧ Aside0 (wc.heap[gb394]? = some (.cells #[.bool t385, .bool t386, (.slice Ao52 t387.length co52), (.slice Ao54 t390.length co54)] 30 (0, 0))) ∧ Aside0 (Below w.heap.size w wc))
 case first =>
  have H := HC11.out
  clear HC11
  by_cases c60 : t380 = 0
  ·rw [if_pos c60] at H
   have c60b0 : (t380 == 0) = true := beq_iff_eq.mpr c60
   have c60b1 : (t380 != 0) = false := bne_eq_false_iff_eq.mpr c60
   clear c60
   (first | rw [c60b0] | (simp only [i64_w, i32_w]; rw [c60b0]) | skip)
   by_cases c61 : t393 = 0
   ·rw [if_pos c61] at H
    have c61b0 : (t393 == 0) = true := beq_iff_eq.mpr c61
    have c61b1 : (t393 != 0) = false := bne_eq_false_iff_eq.mpr c61
    clear c61
    by_cases c62 : (t387.length : Int) = 0
    ·rw [if_pos c62] at H
     have c62b0 : ((t387.length : Int) == 0) = true := beq_iff_eq.mpr c62
     have c62b1 : ((t387.length : Int) != 0) = false := bne_eq_false_iff_eq.mpr c62
     clear c62
     by_cases c63 : (t390.length : Int) = 0
     ·rw [if_pos c63] at H
      have c63b0 : ((t390.length : Int) == 0) = true := beq_iff_eq.mpr c63
      have c63b1 : ((t390.length : Int) != 0) = false := bne_eq_false_iff_eq.mpr c63
      clear c63
      by_cases c64 : t385 = true
      ·subst c64
       have H1 : (gambrellaw22_PlanParity.j0 k t360 t395 (!t386) t361 t362 t363 t365 t362 t367 t372 t373 t374 t377) = some r := by rw [if_pos rfl] at H; exact H
       clear H
       have H := H1
       clear H1
       have H' := Aside0.mk H
       clear H
       have hnb65 := NB394_358.out
       have hnc65 := NB358_394.out
       have hnb66 := NB394_359.out
       have hnc66 := NB359_394.out
       have hnb67 := NB394_364.out
       have hnc67 := NB364_394.out
       have hnb68 := NB394_368.out
       have hnc68 := NB368_394.out
       have hnb69 := NB394_381.out
       have hnc69 := NB381_394.out
       have hcz70_0 : w59.cell? ⟨gb394, 0, none⟩ = some (.bool true) := (blk_cell BK394.out 0).trans rfl
       have hcz70_1 : w59.cell? ⟨gb394, 1, none⟩ = some (.bool t386) := (blk_cell BK394.out 1).trans rfl
       have hcz70_2 : w59.cell? ⟨gb394, 2, none⟩ = some (.slice Ao52 t387.length co52) := (blk_cell BK394.out 2).trans rfl
       have hcz70_3 : w59.cell? ⟨gb394, 3, none⟩ = some (.slice Ao54 t390.length co54) := (blk_cell BK394.out 3).trans rfl
       have hfz70_0 := blk_frozen BK394.out 0
       have hfz70_1 := blk_frozen BK394.out 1
       have hfz70_2 := blk_frozen BK394.out 2
       have hfz70_3 := blk_frozen BK394.out 3
       go_wp2
       go_meet
       case rel => exact ⟨_, (!t386), (by first | rfl | (simp; done) | (simp [*]; done)), H', ⟨by first | omega | exact Nat.le_refl _⟩, ⟨by (with_reducible repeat (first | apply Kd.R_alloc | apply Kd.R_drewN | apply Kd.R_drew)); exact Kd.R_mono HO397.out (fun _ hk => ⟨hk.1.1.1.2, ⟨hk.1.1.2, ⟨hk.1.2, hk.2⟩⟩⟩)⟩, ⟨by (with_reducible repeat (first | apply Kd.R_alloc | apply Kd.R_drewN | apply Kd.R_drew)); exact Kd.R_mono HO376.out (fun _ hk => ⟨hk.2, ⟨hk.1.1, ⟨hk.1.2.1, hk.1.2.2⟩⟩⟩)⟩, ⟨by (with_reducible repeat (first | apply Kd.R_alloc | apply Kd.R_drewN | apply Kd.R_drew)); exact Kd.R_mono HO379.out (fun _ hk => ⟨hk.2, ⟨hk.1.1, ⟨hk.1.2.1, hk.1.2.2⟩⟩⟩)⟩, ⟨by (with_reducible repeat (first | apply Kd.R_alloc | apply Kd.R_drewN | apply Kd.R_drew)); exact Kd.R_mono HO389.out (fun _ hk => ⟨hk.2, ⟨hk.1.1, ⟨hk.1.2.1, hk.1.2.2⟩⟩⟩)⟩, ⟨by (with_reducible repeat (first | apply Kd.R_alloc | apply Kd.R_drewN | apply Kd.R_drew)); exact Kd.R_mono HO392.out (fun _ hk => ⟨hk.2, ⟨hk.1.1, ⟨hk.1.2.1, hk.1.2.2⟩⟩⟩)⟩, ⟨by (with_reducible repeat (first | refine blk_drewN ?_ _ | refine blk_drew ?_ | refine blk_alloc ?_ _)); exact BK358.out⟩, ⟨by (with_reducible repeat (first | refine blk_drewN ?_ _ | refine blk_drew ?_ | refine blk_alloc ?_ _)); exact BK359.out⟩, ⟨by (with_reducible repeat (first | refine blk_drewN ?_ _ | refine blk_drew ?_ | refine blk_alloc ?_ _)); exact BK364.out⟩, ⟨by (with_reducible repeat (first | refine blk_drewN ?_ _ | refine blk_drew ?_ | refine blk_alloc ?_ _)); exact BK368.out⟩, ⟨by (with_reducible repeat (first | refine blk_drewN ?_ _ | refine blk_drew ?_ | refine blk_alloc ?_ _)); exact BK381.out⟩, ⟨by (with_reducible repeat (first | refine blk_drewN ?_ _ | refine blk_drew ?_ | refine blk_alloc ?_ _)); exact BK394.out⟩, ⟨by repeat (first | (with_reducible first | exact HB.out | apply below_alloc | apply pw_below_drewN | apply below_drew1 | refine below_set ?_ GE358.out | refine below_set ?_ GE359.out | refine below_set ?_ GE364.out | refine below_set ?_ GE368.out | refine below_set ?_ GE381.out | refine below_set ?_ GE394.out) | exact HB.out)⟩⟩
      ·replace c64 := Bool.eq_false_iff.mpr c64
       subst c64
       have H1 : (gambrellaw22_PlanParity.j0 k t360 t395 true t361 t362 t363 t365 t362 t367 t372 t373 t374 t377) = some r := by rw [if_neg (show ¬ (false = true) by decide)] at H; exact H
       clear H
       have H := H1
       clear H1
       have H' := Aside0.mk H
       clear H
       have hnb71 := NB394_358.out
       have hnc71 := NB358_394.out
       have hnb72 := NB394_359.out
       have hnc72 := NB359_394.out
       have hnb73 := NB394_364.out
       have hnc73 := NB364_394.out
       have hnb74 := NB394_368.out
       have hnc74 := NB368_394.out
       have hnb75 := NB394_381.out
       have hnc75 := NB381_394.out
       have hcz76_0 : w59.cell? ⟨gb394, 0, none⟩ = some (.bool false) := (blk_cell BK394.out 0).trans rfl
       have hcz76_1 : w59.cell? ⟨gb394, 1, none⟩ = some (.bool t386) := (blk_cell BK394.out 1).trans rfl
       have hcz76_2 : w59.cell? ⟨gb394, 2, none⟩ = some (.slice Ao52 t387.length co52) := (blk_cell BK394.out 2).trans rfl
       have hcz76_3 : w59.cell? ⟨gb394, 3, none⟩ = some (.slice Ao54 t390.length co54) := (blk_cell BK394.out 3).trans rfl
       have hfz76_0 := blk_frozen BK394.out 0
       have hfz76_1 := blk_frozen BK394.out 1
       have hfz76_2 := blk_frozen BK394.out 2
       have hfz76_3 := blk_frozen BK394.out 3
       go_wp2
       go_meet
       case rel => exact ⟨_, (true), (by first | rfl | (simp; done) | (simp [*]; done)), H', ⟨by first | omega | exact Nat.le_refl _⟩, ⟨by (with_reducible repeat (first | apply Kd.R_alloc | apply Kd.R_drewN | apply Kd.R_drew)); exact Kd.R_mono HO397.out (fun _ hk => ⟨hk.1.1.1.2, ⟨hk.1.1.2, ⟨hk.1.2, hk.2⟩⟩⟩)⟩, ⟨by (with_reducible repeat (first | apply Kd.R_alloc | apply Kd.R_drewN | apply Kd.R_drew)); exact Kd.R_mono HO376.out (fun _ hk => ⟨hk.2, ⟨hk.1.1, ⟨hk.1.2.1, hk.1.2.2⟩⟩⟩)⟩, ⟨by (with_reducible repeat (first | apply Kd.R_alloc | apply Kd.R_drewN | apply Kd.R_drew)); exact Kd.R_mono HO379.out (fun _ hk => ⟨hk.2, ⟨hk.1.1, ⟨hk.1.2.1, hk.1.2.2⟩⟩⟩)⟩, ⟨by (with_reducible repeat (first | apply Kd.R_alloc | apply Kd.R_drewN | apply Kd.R_drew)); exact Kd.R_mono HO389.out (fun _ hk => ⟨hk.2, ⟨hk.1.1, ⟨hk.1.2.1, hk.1.2.2⟩⟩⟩)⟩, ⟨by (with_reducible repeat (first | apply Kd.R_alloc | apply Kd.R_drewN | apply Kd.R_drew)); exact Kd.R_mono HO392.out (fun _ hk => ⟨hk.2, ⟨hk.1.1, ⟨hk.1.2.1, hk.1.2.2⟩⟩⟩)⟩, ⟨by (with_reducible repeat (first | refine blk_drewN ?_ _ | refine blk_drew ?_ | refine blk_alloc ?_ _)); exact BK358.out⟩, ⟨by (with_reducible repeat (first | refine blk_drewN ?_ _ | refine blk_drew ?_ | refine blk_alloc ?_ _)); exact BK359.out⟩, ⟨by (with_reducible repeat (first | refine blk_drewN ?_ _ | refine blk_drew ?_ | refine blk_alloc ?_ _)); exact BK364.out⟩, ⟨by (with_reducible repeat (first | refine blk_drewN ?_ _ | refine blk_drew ?_ | refine blk_alloc ?_ _)); exact BK368.out⟩, ⟨by (with_reducible repeat (first | refine blk_drewN ?_ _ | refine blk_drew ?_ | refine blk_alloc ?_ _)); exact BK381.out⟩, ⟨by (with_reducible repeat (first | refine blk_drewN ?_ _ | refine blk_drew ?_ | refine blk_alloc ?_ _)); exact BK394.out⟩, ⟨by repeat (first | (with_reducible first | exact HB.out | apply below_alloc | apply pw_below_drewN | apply below_drew1 | refine below_set ?_ GE358.out | refine below_set ?_ GE359.out | refine below_set ?_ GE364.out | refine below_set ?_ GE368.out | refine below_set ?_ GE381.out | refine below_set ?_ GE394.out) | exact HB.out)⟩⟩
     ·rw [if_neg c63] at H
      have c63b0 : ((t390.length : Int) == 0) = false := beq_eq_false_iff_ne.mpr c63
      have c63b1 : ((t390.length : Int) != 0) = true := bne_iff_ne.mpr c63
      have c63b2 : ¬ (t390 = []) := fun h_ => c63 (by rw [h_]; rfl)
      have H' := Aside0.mk H
      clear H
      have hnb77 := NB394_358.out
      have hnc77 := NB358_394.out
      have hnb78 := NB394_359.out
      have hnc78 := NB359_394.out
      have hnb79 := NB394_364.out
      have hnc79 := NB364_394.out
      have hnb80 := NB394_368.out
      have hnc80 := NB368_394.out
      have hnb81 := NB394_381.out
      have hnc81 := NB381_394.out
      have hcz82_0 : w59.cell? ⟨gb394, 0, none⟩ = some (.bool t385) := (blk_cell BK394.out 0).trans rfl
      have hcz82_1 : w59.cell? ⟨gb394, 1, none⟩ = some (.bool t386) := (blk_cell BK394.out 1).trans rfl
      have hcz82_2 : w59.cell? ⟨gb394, 2, none⟩ = some (.slice Ao52 t387.length co52) := (blk_cell BK394.out 2).trans rfl
      have hcz82_3 : w59.cell? ⟨gb394, 3, none⟩ = some (.slice Ao54 t390.length co54) := (blk_cell BK394.out 3).trans rfl
      have hfz82_0 := blk_frozen BK394.out 0
      have hfz82_1 := blk_frozen BK394.out 1
      have hfz82_2 := blk_frozen BK394.out 2
      have hfz82_3 := blk_frozen BK394.out 3
      go_wp2
      go_meet
      case rel => exact ⟨_, (true), (by first | rfl | (simp; done) | (simp [*]; done)), H', ⟨by first | omega | exact Nat.le_refl _⟩, ⟨by (with_reducible repeat (first | apply Kd.R_alloc | apply Kd.R_drewN | apply Kd.R_drew)); exact Kd.R_mono HO397.out (fun _ hk => ⟨hk.1.1.1.2, ⟨hk.1.1.2, ⟨hk.1.2, hk.2⟩⟩⟩)⟩, ⟨by (with_reducible repeat (first | apply Kd.R_alloc | apply Kd.R_drewN | apply Kd.R_drew)); exact Kd.R_mono HO376.out (fun _ hk => ⟨hk.2, ⟨hk.1.1, ⟨hk.1.2.1, hk.1.2.2⟩⟩⟩)⟩, ⟨by (with_reducible repeat (first | apply Kd.R_alloc | apply Kd.R_drewN | apply Kd.R_drew)); exact Kd.R_mono HO379.out (fun _ hk => ⟨hk.2, ⟨hk.1.1, ⟨hk.1.2.1, hk.1.2.2⟩⟩⟩)⟩, ⟨by (with_reducible repeat (first | apply Kd.R_alloc | apply Kd.R_drewN | apply Kd.R_drew)); exact Kd.R_mono HO389.out (fun _ hk => ⟨hk.2, ⟨hk.1.1, ⟨hk.1.2.1, hk.1.2.2⟩⟩⟩)⟩, ⟨by (with_reducible repeat (first | apply Kd.R_alloc | apply Kd.R_drewN | apply Kd.R_drew)); exact Kd.R_mono HO392.out (fun _ hk => ⟨hk.2, ⟨hk.1.1, ⟨hk.1.2.1, hk.1.2.2⟩⟩⟩)⟩, ⟨by (with_reducible repeat (first | refine blk_drewN ?_ _ | refine blk_drew ?_ | refine blk_alloc ?_ _)); exact BK358.out⟩, ⟨by (with_reducible repeat (first | refine blk_drewN ?_ _ | refine blk_drew ?_ | refine blk_alloc ?_ _)); exact BK359.out⟩, ⟨by (with_reducible repeat (first | refine blk_drewN ?_ _ | refine blk_drew ?_ | refine blk_alloc ?_ _)); exact BK364.out⟩, ⟨by (with_reducible repeat (first | refine blk_drewN ?_ _ | refine blk_drew ?_ | refine blk_alloc ?_ _)); exact BK368.out⟩, ⟨by (with_reducible repeat (first | refine blk_drewN ?_ _ | refine blk_drew ?_ | refine blk_alloc ?_ _)); exact BK381.out⟩, ⟨by (with_reducible repeat (first | refine blk_drewN ?_ _ | refine blk_drew ?_ | refine blk_alloc ?_ _)); exact BK394.out⟩, ⟨by repeat (first | (with_reducible first | exact HB.out | apply below_alloc | apply pw_below_drewN | apply below_drew1 | refine below_set ?_ GE358.out | refine below_set ?_ GE359.out | refine below_set ?_ GE364.out | refine below_set ?_ GE368.out | refine below_set ?_ GE381.out | refine below_set ?_ GE394.out) | exact HB.out)⟩⟩
    ·rw [if_neg c62] at H
     have c62b0 : ((t387.length : Int) == 0) = false := beq_eq_false_iff_ne.mpr c62
     have c62b1 : ((t387.length : Int) != 0) = true := bne_iff_ne.mpr c62
     have c62b2 : ¬ (t387 = []) := fun h_ => c62 (by rw [h_]; rfl)
     have H' := Aside0.mk H
     clear H
     have hnb83 := NB394_358.out
     have hnc83 := NB358_394.out
     have hnb84 := NB394_359.out
     have hnc84 := NB359_394.out
     have hnb85 := NB394_364.out
     have hnc85 := NB364_394.out
     have hnb86 := NB394_368.out
     have hnc86 := NB368_394.out
     have hnb87 := NB394_381.out
     have hnc87 := NB381_394.out
     have hcz88_0 : w59.cell? ⟨gb394, 0, none⟩ = some (.bool t385) := (blk_cell BK394.out 0).trans rfl
     have hcz88_1 : w59.cell? ⟨gb394, 1, none⟩ = some (.bool t386) := (blk_cell BK394.out 1).trans rfl
     have hcz88_2 : w59.cell? ⟨gb394, 2, none⟩ = some (.slice Ao52 t387.length co52) := (blk_cell BK394.out 2).trans rfl
     have hcz88_3 : w59.cell? ⟨gb394, 3, none⟩ = some (.slice Ao54 t390.length co54) := (blk_cell BK394.out 3).trans rfl
     have hfz88_0 := blk_frozen BK394.out 0
     have hfz88_1 := blk_frozen BK394.out 1
     have hfz88_2 := blk_frozen BK394.out 2
     have hfz88_3 := blk_frozen BK394.out 3
     go_wp2
     go_meet
     case rel => exact ⟨_, (true), (by first | rfl | (simp; done) | (simp [*]; done)), H', ⟨by first | omega | exact Nat.le_refl _⟩, ⟨by (with_reducible repeat (first | apply Kd.R_alloc | apply Kd.R_drewN | apply Kd.R_drew)); exact Kd.R_mono HO397.out (fun _ hk => ⟨hk.1.1.1.2, ⟨hk.1.1.2, ⟨hk.1.2, hk.2⟩⟩⟩)⟩, ⟨by (with_reducible repeat (first | apply Kd.R_alloc | apply Kd.R_drewN | apply Kd.R_drew)); exact Kd.R_mono HO376.out (fun _ hk => ⟨hk.2, ⟨hk.1.1, ⟨hk.1.2.1, hk.1.2.2⟩⟩⟩)⟩, ⟨by (with_reducible repeat (first | apply Kd.R_alloc | apply Kd.R_drewN | apply Kd.R_drew)); exact Kd.R_mono HO379.out (fun _ hk => ⟨hk.2, ⟨hk.1.1, ⟨hk.1.2.1, hk.1.2.2⟩⟩⟩)⟩, ⟨by (with_reducible repeat (first | apply Kd.R_alloc | apply Kd.R_drewN | apply Kd.R_drew)); exact Kd.R_mono HO389.out (fun _ hk => ⟨hk.2, ⟨hk.1.1, ⟨hk.1.2.1, hk.1.2.2⟩⟩⟩)⟩, ⟨by (with_reducible repeat (first | apply Kd.R_alloc | apply Kd.R_drewN | apply Kd.R_drew)); exact Kd.R_mono HO392.out (fun _ hk => ⟨hk.2, ⟨hk.1.1, ⟨hk.1.2.1, hk.1.2.2⟩⟩⟩)⟩, ⟨by (with_reducible repeat (first | refine blk_drewN ?_ _ | refine blk_drew ?_ | refine blk_alloc ?_ _)); exact BK358.out⟩, ⟨by (with_reducible repeat (first | refine blk_drewN ?_ _ | refine blk_drew ?_ | refine blk_alloc ?_ _)); exact BK359.out⟩, ⟨by (with_reducible repeat (first | refine blk_drewN ?_ _ | refine blk_drew ?_ | refine blk_alloc ?_ _)); exact BK364.out⟩, ⟨by (with_reducible repeat (first | refine blk_drewN ?_ _ | refine blk_drew ?_ | refine blk_alloc ?_ _)); exact BK368.out⟩, ⟨by (with_reducible repeat (first | refine blk_drewN ?_ _ | refine blk_drew ?_ | refine blk_alloc ?_ _)); exact BK381.out⟩, ⟨by (with_reducible repeat (first | refine blk_drewN ?_ _ | refine blk_drew ?_ | refine blk_alloc ?_ _)); exact BK394.out⟩, ⟨by repeat (first | (with_reducible first | exact HB.out | apply below_alloc | apply pw_below_drewN | apply below_drew1 | refine below_set ?_ GE358.out | refine below_set ?_ GE359.out | refine below_set ?_ GE364.out | refine below_set ?_ GE368.out | refine below_set ?_ GE381.out | refine below_set ?_ GE394.out) | exact HB.out)⟩⟩
   ·rw [if_neg c61] at H
    have c61b0 : (t393 == 0) = false := beq_eq_false_iff_ne.mpr c61
    have c61b1 : (t393 != 0) = true := bne_iff_ne.mpr c61
    have H' := Aside0.mk H
    clear H
    go_wp2
    go_meet
    case rel => exact ⟨_, (true), (by first | rfl | (simp; done) | (simp [*]; done)), H', ⟨by first | omega | exact Nat.le_refl _⟩, ⟨by (with_reducible repeat (first | apply Kd.R_alloc | apply Kd.R_drewN | apply Kd.R_drew)); exact Kd.R_mono HO397.out (fun _ hk => ⟨hk.1.1.1.2, ⟨hk.1.1.2, ⟨hk.1.2, hk.2⟩⟩⟩)⟩, ⟨by (with_reducible repeat (first | apply Kd.R_alloc | apply Kd.R_drewN | apply Kd.R_drew)); exact Kd.R_mono HO376.out (fun _ hk => ⟨hk.2, ⟨hk.1.1, ⟨hk.1.2.1, hk.1.2.2⟩⟩⟩)⟩, ⟨by (with_reducible repeat (first | apply Kd.R_alloc | apply Kd.R_drewN | apply Kd.R_drew)); exact Kd.R_mono HO379.out (fun _ hk => ⟨hk.2, ⟨hk.1.1, ⟨hk.1.2.1, hk.1.2.2⟩⟩⟩)⟩, ⟨by (with_reducible repeat (first | apply Kd.R_alloc | apply Kd.R_drewN | apply Kd.R_drew)); exact Kd.R_mono HO389.out (fun _ hk => ⟨hk.2, ⟨hk.1.1, ⟨hk.1.2.1, hk.1.2.2⟩⟩⟩)⟩, ⟨by (with_reducible repeat (first | apply Kd.R_alloc | apply Kd.R_drewN | apply Kd.R_drew)); exact Kd.R_mono HO392.out (fun _ hk => ⟨hk.2, ⟨hk.1.1, ⟨hk.1.2.1, hk.1.2.2⟩⟩⟩)⟩, ⟨by (with_reducible repeat (first | refine blk_drewN ?_ _ | refine blk_drew ?_ | refine blk_alloc ?_ _)); exact BK358.out⟩, ⟨by (with_reducible repeat (first | refine blk_drewN ?_ _ | refine blk_drew ?_ | refine blk_alloc ?_ _)); exact BK359.out⟩, ⟨by (with_reducible repeat (first | refine blk_drewN ?_ _ | refine blk_drew ?_ | refine blk_alloc ?_ _)); exact BK364.out⟩, ⟨by (with_reducible repeat (first | refine blk_drewN ?_ _ | refine blk_drew ?_ | refine blk_alloc ?_ _)); exact BK368.out⟩, ⟨by (with_reducible repeat (first | refine blk_drewN ?_ _ | refine blk_drew ?_ | refine blk_alloc ?_ _)); exact BK381.out⟩, ⟨by (with_reducible repeat (first | refine blk_drewN ?_ _ | refine blk_drew ?_ | refine blk_alloc ?_ _)); exact BK394.out⟩, ⟨by repeat (first | (with_reducible first | exact HB.out | apply below_alloc | apply pw_below_drewN | apply below_drew1 | refine below_set ?_ GE358.out | refine below_set ?_ GE359.out | refine below_set ?_ GE364.out | refine below_set ?_ GE368.out | refine below_set ?_ GE381.out | refine below_set ?_ GE394.out) | exact HB.out)⟩⟩
  ·rw [if_neg c60] at H
   have c60b0 : (t380 == 0) = false := beq_eq_false_iff_ne.mpr c60
   have c60b1 : (t380 != 0) = true := bne_iff_ne.mpr c60
   (first | rw [c60b0] | (simp only [i64_w, i32_w]; rw [c60b0]) | skip)
   have H' := Aside0.mk H
   clear H
   go_wp2
   go_meet
   case rel => exact ⟨_, (true), (by first | rfl | (simp; done) | (simp [*]; done)), H', ⟨by first | omega | exact Nat.le_refl _⟩, ⟨by (with_reducible repeat (first | apply Kd.R_alloc | apply Kd.R_drewN | apply Kd.R_drew)); exact Kd.R_mono HO397.out (fun _ hk => ⟨hk.1.1.1.2, ⟨hk.1.1.2, ⟨hk.1.2, hk.2⟩⟩⟩)⟩, ⟨by (with_reducible repeat (first | apply Kd.R_alloc | apply Kd.R_drewN | apply Kd.R_drew)); exact Kd.R_mono HO376.out (fun _ hk => ⟨hk.2, ⟨hk.1.1, ⟨hk.1.2.1, hk.1.2.2⟩⟩⟩)⟩, ⟨by (with_reducible repeat (first | apply Kd.R_alloc | apply Kd.R_drewN | apply Kd.R_drew)); exact Kd.R_mono HO379.out (fun _ hk => ⟨hk.2, ⟨hk.1.1, ⟨hk.1.2.1, hk.1.2.2⟩⟩⟩)⟩, ⟨by (with_reducible repeat (first | apply Kd.R_alloc | apply Kd.R_drewN | apply Kd.R_drew)); exact Kd.R_mono HO389.out (fun _ hk => ⟨hk.2, ⟨hk.1.1, ⟨hk.1.2.1, hk.1.2.2⟩⟩⟩)⟩, ⟨by (with_reducible repeat (first | apply Kd.R_alloc | apply Kd.R_drewN | apply Kd.R_drew)); exact Kd.R_mono HO392.out (fun _ hk => ⟨hk.2, ⟨hk.1.1, ⟨hk.1.2.1, hk.1.2.2⟩⟩⟩)⟩, ⟨by (with_reducible repeat (first | refine blk_drewN ?_ _ | refine blk_drew ?_ | refine blk_alloc ?_ _)); exact BK358.out⟩, ⟨by (with_reducible repeat (first | refine blk_drewN ?_ _ | refine blk_drew ?_ | refine blk_alloc ?_ _)); exact BK359.out⟩, ⟨by (with_reducible repeat (first | refine blk_drewN ?_ _ | refine blk_drew ?_ | refine blk_alloc ?_ _)); exact BK364.out⟩, ⟨by (with_reducible repeat (first | refine blk_drewN ?_ _ | refine blk_drew ?_ | refine blk_alloc ?_ _)); exact BK368.out⟩, ⟨by (with_reducible repeat (first | refine blk_drewN ?_ _ | refine blk_drew ?_ | refine blk_alloc ?_ _)); exact BK381.out⟩, ⟨by (with_reducible repeat (first | refine blk_drewN ?_ _ | refine blk_drew ?_ | refine blk_alloc ?_ _)); exact BK394.out⟩, ⟨by repeat (first | (with_reducible first | exact HB.out | apply below_alloc | apply pw_below_drewN | apply below_drew1 | refine below_set ?_ GE358.out | refine below_set ?_ GE359.out | refine below_set ?_ GE364.out | refine below_set ?_ GE368.out | refine below_set ?_ GE381.out | refine below_set ?_ GE394.out) | exact HB.out)⟩⟩
 case rest =>
  clear HC11
  try clear c1
  try clear p2
  try clear c5
  try clear c6
  try clear c7
  try clear c8
  try clear c12
  try clear c13
  try clear c56
  try clear c57
  try clear c60
  try clear c60b0
  try clear c60b1
  try clear c61
  try clear c61b0
  try clear c61b1
  try clear c62
  try clear c62b0
  try clear c62b1
  try clear c62b2
  try clear c63
  try clear c63b0
  try clear c63b1
  try clear c63b2
  try clear c64
  try clear c65
  try clear c66
  try clear c67
  try clear c68
  try clear c69
  try clear c71
  try clear c72
  try clear c73
  try clear c74
  try clear c75
  try clear c77
  try clear c78
  try clear c79
  try clear c80
  try clear c81
  try clear c83
  try clear c84
  try clear c85
  try clear c86
  try clear c87
  try clear hcz58_0
  try clear hcz58_1
  try clear hcz58_2
  try clear hcz70_0
  try clear hcz70_1
  try clear hcz70_2
  try clear hcz70_3
  try clear hcz76_0
  try clear hcz76_1
  try clear hcz76_2
  try clear hcz76_3
  try clear hcz82_0
  try clear hcz82_1
  try clear hcz82_2
  try clear hcz82_3
  try clear hcz88_0
  try clear hcz88_1
  try clear hcz88_2
  try clear hcz88_3
  try clear hfz58_0
  try clear hfz58_1
  try clear hfz58_2
  try clear hfz70_0
  try clear hfz70_1
  try clear hfz70_2
  try clear hfz70_3
  try clear hfz76_0
  try clear hfz76_1
  try clear hfz76_2
  try clear hfz76_3
  try clear hfz82_0
  try clear hfz82_1
  try clear hfz82_2
  try clear hfz82_3
  try clear hfz88_0
  try clear hfz88_1
  try clear hfz88_2
  try clear hfz88_3
  obtain ⟨kq, x70_10, rfl, HA, HJ10, HO_12, HO_382002, HO_382003, HO_395002, HO_395003, BK358, BK359, BK364, BK368, BK381, BK394, HB⟩ := hcut
  cases kq with
  | zero => exact absurd HA.out (by simp [gambrellaw22_PlanParity.j0])
  | succ kj10 =>
   have H := HA.out
   clear HA
   simp only [gambrellaw22_PlanParity.j0] at H
   by_cases c89 : x70_10 = true
   ·subst c89
    have H1 : (some false) = some r := by rw [if_pos rfl] at H; exact H
    clear H
    have H := H1
    clear H1
    exact absurd ((Option.some.inj H).trans hr_.out) (by simp)
   ·replace c89 := Bool.eq_false_iff.mpr c89
    subst c89
    have H1 : (if t373 = true then (if t372 = true then (if t360 = true then (if (eqT23 t361 t365 t362 t362 t363 t367) = true then (some ((t374.length : Int) == 0)) else (some false)) else (some false)) else (if t360 = true then (if 0 ≤ t362 then (if t362 ≤ (t395.length : Int) then ((gambrelref15_Strings.f kj10 t374 (t395.drop (t362 : Int).toNat)).bind fun t403 => (if t403 = true then (some ((t377.length : Int) == t363)) else (some false))) else (none)) else (none)) else (some false))) else (if t360 = true then ((gambrelref15_Strings.f kj10 t374 t395).bind fun t404 => (if t404 = true then (some ((t377.length : Int) == (wrap64 (t362 + t363)))) else (some false))) else (some false))) = some r := by rw [if_neg (show ¬ (false = true) by decide)] at H; exact H
    clear H
    have H := H1
    clear H1
    by_cases c90 : t373 = true
    ·subst c90
     have H1 : (if t372 = true then (if t360 = true then (if (eqT23 t361 t365 t362 t362 t363 t367) = true then (some ((t374.length : Int) == 0)) else (some false)) else (some false)) else (if t360 = true then (if 0 ≤ t362 then (if t362 ≤ (t395.length : Int) then ((gambrelref15_Strings.f kj10 t374 (t395.drop (t362 : Int).toNat)).bind fun t403 => (if t403 = true then (some ((t377.length : Int) == t363)) else (some false))) else (none)) else (none)) else (some false))) = some r := by rw [if_pos rfl] at H; exact H
     clear H
     have H := H1
     clear H1
     by_cases c91 : t372 = true
     ·subst c91
      have H1 : (if t360 = true then (if (eqT23 t361 t365 t362 t362 t363 t367) = true then (some ((t374.length : Int) == 0)) else (some false)) else (some false)) = some r := by rw [if_pos rfl] at H; exact H
      clear H
      have H := H1
      clear H1
      by_cases c92 : t360 = true
      ·subst c92
       have H1 : (if (eqT23 t361 t365 t362 t362 t363 t367) = true then (some ((t374.length : Int) == 0)) else (some false)) = some r := by rw [if_pos rfl] at H; exact H
       clear H
       have H := H1
       clear H1
       by_cases c93 : (eqT23 t361 t365 t362 t362 t363 t367) = true
       ·rw [if_pos c93] at H
        have c93b0 : (eqT23 t361 t365 t362 t362 t363 t367) = true := c93
        clear c93
        obtain rfl := Option.some.inj H
        have hnb94 := NB381_358.out
        have hnc94 := NB358_381.out
        have hnb95 := NB381_359.out
        have hnc95 := NB359_381.out
        have hnb96 := NB381_364.out
        have hnc96 := NB364_381.out
        have hnb97 := NB381_368.out
        have hnc97 := NB368_381.out
        have hnb98 := NB381_394.out
        have hnc98 := NB394_381.out
        have hcz99_0 : wc.cell? ⟨gb381, 0, none⟩ = some (.bool true) := (blk_cell BK381.out 0).trans rfl
        have hcz99_1 : wc.cell? ⟨gb381, 1, none⟩ = some (.bool true) := (blk_cell BK381.out 1).trans rfl
        have hcz99_2 : wc.cell? ⟨gb381, 2, none⟩ = some (.slice Ao39 t374.length co39) := (blk_cell BK381.out 2).trans rfl
        have hcz99_3 : wc.cell? ⟨gb381, 3, none⟩ = some (.slice Ao41 t377.length co41) := (blk_cell BK381.out 3).trans rfl
        have hfz99_0 := blk_frozen BK381.out 0
        have hfz99_1 := blk_frozen BK381.out 1
        have hfz99_2 := blk_frozen BK381.out 2
        have hfz99_3 := blk_frozen BK381.out 3
        have hnb100 := NB364_358.out
        have hnc100 := NB358_364.out
        have hnb101 := NB364_359.out
        have hnc101 := NB359_364.out
        have hnb102 := NB364_368.out
        have hnc102 := NB368_364.out
        have hnb103 := NB364_394.out
        have hnc103 := NB394_364.out
        have hcz104_0 : wc.cell? ⟨gb364, 0, none⟩ = some (.int .i64 t361) := (blk_cell BK364.out 0).trans rfl
        have hcz104_1 : wc.cell? ⟨gb364, 1, none⟩ = some (.int .i64 t362) := (blk_cell BK364.out 1).trans rfl
        have hcz104_2 : wc.cell? ⟨gb364, 2, none⟩ = some (.int .i64 t363) := (blk_cell BK364.out 2).trans rfl
        have hfz104_0 := blk_frozen BK364.out 0
        have hfz104_1 := blk_frozen BK364.out 1
        have hfz104_2 := blk_frozen BK364.out 2
        have hnb105 := NB368_358.out
        have hnc105 := NB358_368.out
        have hnb106 := NB368_359.out
        have hnc106 := NB359_368.out
        have hnb107 := NB368_394.out
        have hnc107 := NB394_368.out
        have hcz108_0 : wc.cell? ⟨gb368, 0, none⟩ = some (.int .i64 t365) := (blk_cell BK368.out 0).trans rfl
        have hcz108_1 : wc.cell? ⟨gb368, 1, none⟩ = some (.int .i64 t362) := (blk_cell BK368.out 1).trans rfl
        have hcz108_2 : wc.cell? ⟨gb368, 2, none⟩ = some (.int .i64 t367) := (blk_cell BK368.out 2).trans rfl
        have hfz108_0 := blk_frozen BK368.out 0
        have hfz108_1 := blk_frozen BK368.out 1
        have hfz108_2 := blk_frozen BK368.out 2
        go_wp2
        go_ret
        exact ⟨by first | rfl | (simp [errW_none, errW_some] <;> rfl) | (simp [*, errW_none, errW_some] <;> rfl), by repeat (first | (with_reducible first | exact HB.out | apply below_alloc | apply pw_below_drewN | apply below_drew1 | refine below_set ?_ GE358.out | refine below_set ?_ GE359.out | refine below_set ?_ GE364.out | refine below_set ?_ GE368.out | refine below_set ?_ GE381.out | refine below_set ?_ GE394.out) | exact HB.out)⟩
       ·rw [if_neg c93] at H
        have c93b0 : (eqT23 t361 t365 t362 t362 t363 t367) = false := by simpa using c93
        clear c93
        exact absurd ((Option.some.inj H).trans hr_.out) (by simp)
      ·replace c92 := Bool.eq_false_iff.mpr c92
       subst c92
       have H1 : (some false) = some r := by rw [if_neg (show ¬ (false = true) by decide)] at H; exact H
       clear H
       have H := H1
       clear H1
       exact absurd ((Option.some.inj H).trans hr_.out) (by simp)
     ·replace c91 := Bool.eq_false_iff.mpr c91
      subst c91
      have H1 : (if t360 = true then (if 0 ≤ t362 then (if t362 ≤ (t395.length : Int) then ((gambrelref15_Strings.f kj10 t374 (t395.drop (t362 : Int).toNat)).bind fun t403 => (if t403 = true then (some ((t377.length : Int) == t363)) else (some false))) else (none)) else (none)) else (some false)) = some r := by rw [if_neg (show ¬ (false = true) by decide)] at H; exact H
      clear H
      have H := H1
      clear H1
      by_cases c109 : t360 = true
      ·subst c109
       have H1 : (if 0 ≤ t362 then (if t362 ≤ (t395.length : Int) then ((gambrelref15_Strings.f kj10 t374 (t395.drop (t362 : Int).toNat)).bind fun t403 => (if t403 = true then (some ((t377.length : Int) == t363)) else (some false))) else (none)) else (none)) = some r := by rw [if_pos rfl] at H; exact H
       clear H
       have H := H1
       clear H1
       by_cases c110 : 0 ≤ t362
       ·rw [if_pos c110] at H
        have c110b0 := eq_true c110
        have c110b1 : decide (0 ≤ t362) = true := decide_eq_true c110
        clear c110
        by_cases c111 : t362 ≤ (t395.length : Int)
        ·rw [if_pos c111] at H
         have c111b0 := eq_true c111
         have c111b1 : decide (t362 ≤ (t395.length : Int)) = true := decide_eq_true c111
         clear c111
         obtain ⟨y399, hy399⟩ : ∃ y_ : List ByteArray, y_ = (t395.drop (t362 : Int).toNat) := ⟨_, rfl⟩
         replace H : ((gambrelref15_Strings.f kj10 t374 y399).bind fun t403 => (if t403 = true then (some ((t377.length : Int) == t363)) else (some false))) = some r := by first | (rw [hy399]; with_reducible exact H) | (have H2_ := (Option.bind_some _ _).symm.trans H; rw [hy399]; with_reducible exact H2_) | (have H2_ := (Option.bind_some _ _).symm.trans H; with_reducible exact H2_) | with_reducible exact H | (rw [hy399]; exact H) | exact H
         have Ny399 := Aside0.mk hy399
         clear hy399
         replace H := Option.bind_eq_some_iff.mp H
         obtain ⟨t403, A1120, H⟩ := H
         replace H : (if t403 = true then (some ((t377.length : Int) == t363)) else (some false)) = some r := H
         have A112 := Aside0.mk A1120
         clear A1120
         by_cases c113 : t403 = true
         ·subst c113
          have H1 : (some ((t377.length : Int) == t363)) = some r := by rw [if_pos rfl] at H; exact H
          clear H
          have H := H1
          clear H1
          obtain rfl := Option.some.inj H
          have hnb114 := NB381_358.out
          have hnc114 := NB358_381.out
          have hnb115 := NB381_359.out
          have hnc115 := NB359_381.out
          have hnb116 := NB381_364.out
          have hnc116 := NB364_381.out
          have hnb117 := NB381_368.out
          have hnc117 := NB368_381.out
          have hnb118 := NB381_394.out
          have hnc118 := NB394_381.out
          have hcz119_0 : wc.cell? ⟨gb381, 0, none⟩ = some (.bool false) := (blk_cell BK381.out 0).trans rfl
          have hcz119_1 : wc.cell? ⟨gb381, 1, none⟩ = some (.bool true) := (blk_cell BK381.out 1).trans rfl
          have hcz119_2 : wc.cell? ⟨gb381, 2, none⟩ = some (.slice Ao39 t374.length co39) := (blk_cell BK381.out 2).trans rfl
          have hcz119_3 : wc.cell? ⟨gb381, 3, none⟩ = some (.slice Ao41 t377.length co41) := (blk_cell BK381.out 3).trans rfl
          have hfz119_0 := blk_frozen BK381.out 0
          have hfz119_1 := blk_frozen BK381.out 1
          have hfz119_2 := blk_frozen BK381.out 2
          have hfz119_3 := blk_frozen BK381.out 3
          try go_wp2
          have n0_ := Aside0.mk (Kd.R_drew HO_12.out)
          have n1_ := Aside0.mk (Kd.R_drew HO_382002.out)
          have n2_ := Aside0.mk (Kd.R_drew HO_382003.out)
          have n3_ := Aside0.mk (Kd.R_drew HO_395002.out)
          have n4_ := Aside0.mk (Kd.R_drew HO_395003.out)
          have n5_ := Aside0.mk (blk_drew BK358.out)
          have n6_ := Aside0.mk (blk_drew BK359.out)
          have n7_ := Aside0.mk (blk_drew BK364.out)
          have n8_ := Aside0.mk (blk_drew BK368.out)
          have n9_ := Aside0.mk (blk_drew BK381.out)
          have n10_ := Aside0.mk (blk_drew BK394.out)
          have n11_ := Aside0.mk (below_drew1 HB.out)
          clear HO_12
          clear HO_382002
          clear HO_382003
          clear HO_395002
          clear HO_395003
          clear BK358
          clear BK359
          clear BK364
          clear BK368
          clear BK381
          clear BK394
          clear HB
          have HO_12 := n0_
          have HO_382002 := n1_
          have HO_382003 := n2_
          have HO_395002 := n3_
          have HO_395003 := n4_
          have BK358 := n5_
          have BK359 := n6_
          have BK364 := n7_
          have BK368 := n8_
          have BK381 := n9_
          have BK394 := n10_
          have HB := n11_
          clear n0_ n1_ n2_ n3_ n4_ n5_ n6_ n7_ n8_ n9_ n10_ n11_
          obtain ⟨Ao122, co122, eo122⟩ := Kd.R_slice HO_12.out
          (first | subst eo122 | (injection eo122 with f1_ f2_ f3_; have f4_ := f1_.symm; have f5_ := f3_.symm; clear f1_ f2_ f3_; subst f4_; subst f5_))
          have q121 : (t362 : Int) ≤ ((t395.length : Int) : Int) := of_decide_eq_true (by first | (with_reducible assumption) | assumption)
          obtain ⟨i0121, hi0121, _, hsz121, _⟩ := info_parts info9
          have hroom121 : t395.length ≤ co122 := (Kd.R_reads' HO_12.out).2.1
          have hC121 : Kd.C Kd.string _ Ao122 t395.length t395 := (Kd.R_reads' HO_12.out).2.2
          have q0121 : (0 : Int) ≤ (t362 : Int) := of_decide_eq_true (by first | (with_reducible assumption) | assumption)
          have hcut121 := cut_from (P := Tryd.prog) 28 9 .i64 Tryd.underlying28 hi0121 1 hsz121 Ao122 t395.length co122 t362 q0121 q121
          have hr121 := Kd.C_drop (m := (t362 : Int).toNat) (c := co122) hC121 (by omega) hroom121
          obtain ⟨A121, hA121⟩ : ∃ A1, A1 = (if co122 = (t362 : Int).toNat then Ao122 else (Ao122 : Option Addr).map (·.add ((t362 : Int).toNat * 1))) := ⟨_, rfl⟩
          obtain ⟨c121, hc121⟩ : ∃ c1, c1 = co122 - (t362 : Int).toNat := ⟨_, rfl⟩
          have hy121 : y399.length = t395.length - (t362 : Int).toNat := (by rw [Ny399.out, List.length_drop] <;> omega)
          rw [show (t395).drop (t362 : Int).toNat = y399 from Ny399.out.symm] at hr121
          replace hr121 : Kd.C Kd.string _ A121 y399.length y399 := (by rw [hA121]; exact hr121)
          rw [← hy121, ← hA121, ← hc121] at hcut121
          have HR402 := Aside0.mk hr121
          have HC402 := Aside0.mk (show y399.length ≤ c121 from by rw [hy121, hc121]; exact Nat.sub_le_sub_right hroom121 _)
          clear hr121 hC121 hroom121 hi0121 hsz121 hc121
          have KY121 := Aside0.mk hy121
          have KA121 := Aside0.mk hA121
          clear hy121 hA121
          have KL121 := Aside0.mk (show (t362 : Int).toNat ≤ t395.length from by omega)
          replace q121 := eq_true q121
          refine start_ (n := 19) (S := fun w' => w'.cell? ⟨gb381, 0, none⟩ = some (.bool false) ∧ w'.cell? ⟨gb381, 1, none⟩ = some (.bool true) ∧ w'.cell? ⟨gb381, 2, none⟩ = some (.slice Ao39 t374.length co39) ∧ w'.cell? ⟨gb381, 3, none⟩ = some (.slice Ao41 t377.length co41) ∧ w'.cell? ⟨gb368, 0, none⟩ = some (.int .i64 t365) ∧ w'.cell? ⟨gb368, 1, none⟩ = some (.int .i64 t362) ∧ w'.cell? ⟨gb368, 2, none⟩ = some (.int .i64 t367) ∧ w'.cell? ⟨gb364, 0, none⟩ = some (.int .i64 t361) ∧ w'.cell? ⟨gb364, 1, none⟩ = some (.int .i64 t362) ∧ w'.cell? ⟨gb364, 2, none⟩ = some (.int .i64 t363)) (ds := []) #[false, false, false, false, false, false, false, false, false, false, false, false, false, false, false, false, false, false, false] (by kernel_rfl) rfl rfl ⟨(blk_cell BK381.out 0).trans rfl, (blk_cell BK381.out 1).trans rfl, (blk_cell BK381.out 2).trans rfl, (blk_cell BK381.out 3).trans rfl, (blk_cell BK368.out 0).trans rfl, (blk_cell BK368.out 1).trans rfl, (blk_cell BK368.out 2).trans rfl, (blk_cell BK364.out 0).trans rfl, (blk_cell BK364.out 1).trans rfl, (blk_cell BK364.out 2).trans rfl⟩ (fun hHeld => ?_); refine with_tabW gambrellaw22_PlanParity.tab14 gambrellaw22_PlanParity.bits14 (fun HT_ HW_ => ?_)
          generalize wc.drew = w120 at HO_12 HO_382002 HO_382003 HO_395002 HO_395003 BK358 BK359 BK364 BK368 BK381 BK394 HB HR402 hHeld ⊢
          refine pure_ (i := 0) (N := some 106) (v := ?_) (a' := ?_) #[true, false, false, false, false, false, false, false, false, false, false, false, false, false, false, false, false, false, false] rfl rfl (any_of HT_.out (by kernel_rfl)) (fun _ _ _ h => h) (Or.inl ⟨by rfl, ?_⟩) ?_ ?_
          rotate_left
          ·intro w'
           go_simp
           with_reducible rfl
          rotate_left
          ·simp only [Act.put, List.setIfInBounds_toArray, List.set_cons_zero, List.set_cons_succ, i64_w, i32_w]
           rfl
          refine pure_ (i := 1) (N := some 107) (v := ?_) (a' := ?_) #[true, true, false, false, false, false, false, false, false, false, false, false, false, false, false, false, false, false, false] rfl rfl (any_of HT_.out (by kernel_rfl)) (fun _ _ _ h => h) (Or.inl ⟨by rfl, ?_⟩) ?_ ?_
          rotate_left
          ·intro w'
           go_simp
           with_reducible rfl
          rotate_left
          ·simp only [Act.put, List.setIfInBounds_toArray, List.set_cons_zero, List.set_cons_succ, i64_w, i32_w]
           rfl
          refine pure_ (i := 2) (N := some 108) (v := ?_) (a' := ?_) #[true, true, true, false, false, false, false, false, false, false, false, false, false, false, false, false, false, false, false] rfl rfl (any_of HT_.out (by kernel_rfl)) (fun _ _ _ h => h) (Or.inl ⟨by rfl, ?_⟩) ?_ ?_
          rotate_left
          ·intro w'
           go_simp
           with_reducible rfl
          rotate_left
          ·simp only [Act.put, List.setIfInBounds_toArray, List.set_cons_zero, List.set_cons_succ, i64_w, i32_w]
           rfl
          refine pure_ (i := 4) (N := some 110) (v := ?_) (a' := ?_) #[true, true, true, false, true, false, false, false, false, false, false, false, false, false, false, false, false, false, false] rfl rfl (any_of HT_.out (by kernel_rfl)) (fun _ _ _ h => h) (Or.inl ⟨by rfl, ?_⟩) ?_ ?_
          rotate_left
          ·intro w'
           go_simp
           with_reducible rfl
          rotate_left
          ·simp only [Act.put, List.setIfInBounds_toArray, List.set_cons_zero, List.set_cons_succ, i64_w, i32_w]
           rfl
          refine pure_ (i := 5) (N := some 111) (v := ?_) (a' := ?_) #[true, true, true, false, true, true, false, false, false, false, false, false, false, false, false, false, false, false, false] rfl rfl (any_of HT_.out (by kernel_rfl)) (fun _ _ _ h => h) (Or.inl ⟨by rfl, ?_⟩) ?_ ?_
          rotate_left
          ·intro w'
           go_simp
           with_reducible rfl
          rotate_left
          ·simp only [Act.put, List.setIfInBounds_toArray, List.set_cons_zero, List.set_cons_succ, i64_w, i32_w]
           rfl
          refine take_ (i := 3) (N := some 109) (v := ?_) (a' := ?_) #[true, true, true, true, true, true, false, false, false, false, false, false, false, false, false, false, false, false, false] rfl rfl (take_ofW HT_.out HW_.out (by kernel_rfl)) (fun _ _ _ h => h) (Or.inl ⟨by rfl, ?_⟩) hHeld ?_ ?_
          rotate_left
          ·rintro w' ⟨s0, s1, s2, s3, s4, s5, s6, s7, s8, s9⟩
           go_simp
           with_reducible rfl
          rotate_left
          ·simp only [Act.put, List.setIfInBounds_toArray, List.set_cons_zero, List.set_cons_succ, i64_w, i32_w]
           rfl
          refine take_ (i := 6) (N := some 112) (v := ?_) (a' := ?_) #[true, true, true, true, true, true, true, false, false, false, false, false, false, false, false, false, false, false, false] rfl rfl (take_ofW HT_.out HW_.out (by kernel_rfl)) (fun _ _ _ h => h) (Or.inl ⟨by rfl, ?_⟩) hHeld ?_ ?_
          rotate_left
          ·rintro w' ⟨s0, s1, s2, s3, s4, s5, s6, s7, s8, s9⟩
           go_simp
           with_reducible rfl
          rotate_left
          ·simp only [Act.put, List.setIfInBounds_toArray, List.set_cons_zero, List.set_cons_succ, i64_w, i32_w]
           rfl
          refine pure_ (i := 7) (N := some 113) (v := ?_) (a' := ?_) #[true, true, true, true, true, true, true, true, false, false, false, false, false, false, false, false, false, false, false] rfl rfl (any_of HT_.out (by kernel_rfl)) (fun _ _ _ h => h) (Or.inl ⟨by rfl, ?_⟩) ?_ ?_
          rotate_left
          ·intro w'
           go_simp
           with_reducible rfl
          rotate_left
          ·simp only [Act.put, List.setIfInBounds_toArray, List.set_cons_zero, List.set_cons_succ, i64_w, i32_w]
           rfl
          refine one_ (i := 8) (N := some 114) #[true, true, true, true, true, true, true, true, true, false, false, false, false, false, false, false, false, false, false] rfl rfl (one_of HT_.out (by kernel_rfl)) (by decide) (fun K hK => ?_)
          refine goes_ Tryd.func15 (by kernel_rfl) rfl #[.slice Ao39 t374.length co39, .slice A121 y399.length c121] (by rfl) rfl rfl (by (try simp only [List.map_toArray, List.map_cons, List.map_nil]); first | done | rfl | (simp only [List.length_drop, List.length_take]; rfl)) ?_
          with_reducible refine (gambrelref15_Strings.calls kj10 _ _ t374 _ _ y399 true _ ?side1 ?side2 ?side3 ?side4 A112.out).mono ?_
          (case side1 => repeat (first | exact (Kd.R_reads' HO_382002.out).2.2 | (with_reducible refine Kd.C_alloc ?_ _) | (with_reducible refine Kd.C_drewN ?_ _) | (with_reducible refine Kd.C_drew ?_)))
          (case side2 => exact (Kd.R_reads' HO_382002.out).2.1)
          (case side3 => repeat (first | exact (by repeat (first | (with_reducible exact HR402.out) | (with_reducible refine Kd.C_alloc ?_ _) | (with_reducible refine Kd.C_drewN ?_ _) | (with_reducible refine Kd.C_drew ?_) | exact HR402.out)) | (with_reducible refine Kd.C_alloc ?_ _) | (with_reducible refine Kd.C_drewN ?_ _) | (with_reducible refine Kd.C_drew ?_)))
          (case side4 => exact HC402.out)
          rintro e w' ⟨rfl, ⟨nd, rfl⟩⟩
          refine ⟨_, rfl, ?_⟩
          refine hK.out _ _ ⟨(blk_cell BK381.out 0).trans rfl, (blk_cell BK381.out 1).trans rfl, (blk_cell BK381.out 2).trans rfl, (blk_cell BK381.out 3).trans rfl, (blk_cell BK368.out 0).trans rfl, (blk_cell BK368.out 1).trans rfl, (blk_cell BK368.out 2).trans rfl, (blk_cell BK364.out 0).trans rfl, (blk_cell BK364.out 1).trans rfl, (blk_cell BK364.out 2).trans rfl⟩ (fun hHeld => ?_)
          clear hK K
          refine norm_ (a' := ?_) ?_ ?_
          rotate_left
          ·show Act.put _ (some 114) _ = _
           simp only [Act.put, List.setIfInBounds_toArray, List.set_cons_zero, List.set_cons_succ, i64_w, i32_w]
           rfl
          refine pure_ (i := 9) (N := some 115) (v := ?_) (a' := ?_) #[true, true, true, true, true, true, true, true, true, true, false, false, false, false, false, false, false, false, false] rfl rfl (any_of HT_.out (by kernel_rfl)) (fun _ _ _ h => h) (Or.inl ⟨by rfl, ?_⟩) ?_ ?_
          rotate_left
          ·intro w'
           go_simp
           with_reducible rfl
          rotate_left
          ·simp only [Act.put, List.setIfInBounds_toArray, List.set_cons_zero, List.set_cons_succ, i64_w, i32_w]
           rfl
          refine pure_ (i := 10) (N := some 116) (v := ?_) (a' := ?_) #[true, true, true, true, true, true, true, true, true, true, true, false, false, false, false, false, false, false, false] rfl rfl (any_of HT_.out (by kernel_rfl)) (fun _ _ _ h => h) (Or.inl ⟨by rfl, ?_⟩) ?_ ?_
          rotate_left
          ·intro w'
           go_simp
           with_reducible rfl
          rotate_left
          ·simp only [Act.put, List.setIfInBounds_toArray, List.set_cons_zero, List.set_cons_succ, i64_w, i32_w]
           rfl
          refine pure_ (i := 11) (N := some 117) (v := ?_) (a' := ?_) #[true, true, true, true, true, true, true, true, true, true, true, true, false, false, false, false, false, false, false] rfl rfl (any_of HT_.out (by kernel_rfl)) (fun _ _ _ h => h) (Or.inl ⟨by rfl, ?_⟩) ?_ ?_
          rotate_left
          ·intro w'
           go_simp
           with_reducible rfl
          rotate_left
          ·simp only [Act.put, List.setIfInBounds_toArray, List.set_cons_zero, List.set_cons_succ, i64_w, i32_w]
           rfl
          refine pure_ (i := 14) (N := some 120) (v := ?_) (a' := ?_) #[true, true, true, true, true, true, true, true, true, true, true, true, false, false, true, false, false, false, false] rfl rfl (any_of HT_.out (by kernel_rfl)) (fun _ _ _ h => h) (Or.inl ⟨by rfl, ?_⟩) ?_ ?_
          rotate_left
          ·intro w'
           go_simp
           with_reducible rfl
          rotate_left
          ·simp only [Act.put, List.setIfInBounds_toArray, List.set_cons_zero, List.set_cons_succ, i64_w, i32_w]
           rfl
          refine take_ (i := 12) (N := some 118) (v := ?_) (a' := ?_) #[true, true, true, true, true, true, true, true, true, true, true, true, true, false, true, false, false, false, false] rfl rfl (take_ofW HT_.out HW_.out (by kernel_rfl)) (fun _ _ _ h => h) (Or.inl ⟨by rfl, ?_⟩) hHeld ?_ ?_
          rotate_left
          ·rintro w' ⟨s0, s1, s2, s3, s4, s5, s6, s7, s8, s9⟩
           go_simp
           with_reducible rfl
          rotate_left
          ·simp only [Act.put, List.setIfInBounds_toArray, List.set_cons_zero, List.set_cons_succ, i64_w, i32_w]
           rfl
          refine pure_ (i := 13) (N := some 119) (v := ?_) (a' := ?_) #[true, true, true, true, true, true, true, true, true, true, true, true, true, true, true, false, false, false, false] rfl rfl (any_of HT_.out (by kernel_rfl)) (fun _ _ _ h => h) (Or.inl ⟨by rfl, ?_⟩) ?_ ?_
          rotate_left
          ·intro w'
           go_simp
           with_reducible rfl
          rotate_left
          ·simp only [Act.put, List.setIfInBounds_toArray, List.set_cons_zero, List.set_cons_succ, i64_w, i32_w]
           rfl
          refine take_ (i := 15) (N := some 121) (v := ?_) (a' := ?_) #[true, true, true, true, true, true, true, true, true, true, true, true, true, true, true, true, false, false, false] rfl rfl (take_ofW HT_.out HW_.out (by kernel_rfl)) (fun _ _ _ h => h) (Or.inl ⟨by rfl, ?_⟩) hHeld ?_ ?_
          rotate_left
          ·rintro w' ⟨s0, s1, s2, s3, s4, s5, s6, s7, s8, s9⟩
           go_simp
           with_reducible rfl
          rotate_left
          ·simp only [Act.put, List.setIfInBounds_toArray, List.set_cons_zero, List.set_cons_succ, i64_w, i32_w]
           rfl
          refine pure_ (i := 16) (N := some 122) (v := ?_) (a' := ?_) #[true, true, true, true, true, true, true, true, true, true, true, true, true, true, true, true, true, false, false] rfl rfl (any_of HT_.out (by kernel_rfl)) (fun _ _ _ h => h) (Or.inl ⟨by rfl, ?_⟩) ?_ ?_
          rotate_left
          ·intro w'
           go_simp
           with_reducible rfl
          rotate_left
          ·simp only [Act.put, List.setIfInBounds_toArray, List.set_cons_zero, List.set_cons_succ, i64_w, i32_w]
           rfl
          refine pure_ (i := 17) (N := some 123) (v := ?_) (a' := ?_) #[true, true, true, true, true, true, true, true, true, true, true, true, true, true, true, true, true, true, false] rfl rfl (any_of HT_.out (by kernel_rfl)) (fun _ _ _ h => h) (Or.inl ⟨by rfl, ?_⟩) ?_ ?_
          rotate_left
          ·intro w'
           go_simp
           with_reducible rfl
          rotate_left
          ·simp only [Act.put, List.setIfInBounds_toArray, List.set_cons_zero, List.set_cons_succ, i64_w, i32_w]
           rfl
          refine pure_ (i := 18) (N := some 4) (v := ?_) (a' := ?_) #[true, true, true, true, true, true, true, true, true, true, true, true, true, true, true, true, true, true, true] rfl rfl (any_of HT_.out (by kernel_rfl)) (fun _ _ _ h => h) (Or.inl ⟨by rfl, ?_⟩) ?_ ?_
          rotate_left
          ·intro w'
           go_simp
           with_reducible rfl
          rotate_left
          ·simp only [Act.put, List.setIfInBounds_toArray, List.set_cons_zero, List.set_cons_succ, i64_w, i32_w]
           rfl
          refine done_ (done_of HT_.out (by kernel_rfl)) ?_
          try go_wp2
          go_ret
          exact ⟨by first | rfl | (simp [errW_none, errW_some] <;> rfl) | (simp [*, errW_none, errW_some] <;> rfl), by repeat (first | (with_reducible first | exact HB.out | apply below_alloc | apply pw_below_drewN | apply below_drew1 | refine below_set ?_ GE358.out | refine below_set ?_ GE359.out | refine below_set ?_ GE364.out | refine below_set ?_ GE368.out | refine below_set ?_ GE381.out | refine below_set ?_ GE394.out) | exact HB.out)⟩
         ·replace c113 := Bool.eq_false_iff.mpr c113
          subst c113
          have H1 : (some false) = some r := by rw [if_neg (show ¬ (false = true) by decide)] at H; exact H
          clear H
          have H := H1
          clear H1
          exact absurd ((Option.some.inj H).trans hr_.out) (by simp)
        ·rw [if_neg c111] at H
         exact absurd H (by simp)
       ·rw [if_neg c110] at H
        exact absurd H (by simp)
      ·replace c109 := Bool.eq_false_iff.mpr c109
       subst c109
       have H1 : (some false) = some r := by rw [if_neg (show ¬ (false = true) by decide)] at H; exact H
       clear H
       have H := H1
       clear H1
       exact absurd ((Option.some.inj H).trans hr_.out) (by simp)
    ·replace c90 := Bool.eq_false_iff.mpr c90
     subst c90
     have H1 : (if t360 = true then ((gambrelref15_Strings.f kj10 t374 t395).bind fun t404 => (if t404 = true then (some ((t377.length : Int) == (wrap64 (t362 + t363)))) else (some false))) else (some false)) = some r := by rw [if_neg (show ¬ (false = true) by decide)] at H; exact H
     clear H
     have H := H1
     clear H1
     by_cases c123 : t360 = true
     ·subst c123
      have H1 : ((gambrelref15_Strings.f kj10 t374 t395).bind fun t404 => (if t404 = true then (some ((t377.length : Int) == (wrap64 (t362 + t363)))) else (some false))) = some r := by rw [if_pos rfl] at H; exact H
      clear H
      have H := H1
      clear H1
      replace H := Option.bind_eq_some_iff.mp H
      obtain ⟨t404, A1240, H⟩ := H
      replace H : (if t404 = true then (some ((t377.length : Int) == (wrap64 (t362 + t363)))) else (some false)) = some r := H
      have A124 := Aside0.mk A1240
      clear A1240
      by_cases c125 : t404 = true
      ·subst c125
       have H1 : (some ((t377.length : Int) == (wrap64 (t362 + t363)))) = some r := by rw [if_pos rfl] at H; exact H
       clear H
       have H := H1
       clear H1
       obtain rfl := Option.some.inj H
       have hnb126 := NB381_358.out
       have hnc126 := NB358_381.out
       have hnb127 := NB381_359.out
       have hnc127 := NB359_381.out
       have hnb128 := NB381_364.out
       have hnc128 := NB364_381.out
       have hnb129 := NB381_368.out
       have hnc129 := NB368_381.out
       have hnb130 := NB381_394.out
       have hnc130 := NB394_381.out
       have hcz131_0 : wc.cell? ⟨gb381, 0, none⟩ = some (.bool t372) := (blk_cell BK381.out 0).trans rfl
       have hcz131_1 : wc.cell? ⟨gb381, 1, none⟩ = some (.bool false) := (blk_cell BK381.out 1).trans rfl
       have hcz131_2 : wc.cell? ⟨gb381, 2, none⟩ = some (.slice Ao39 t374.length co39) := (blk_cell BK381.out 2).trans rfl
       have hcz131_3 : wc.cell? ⟨gb381, 3, none⟩ = some (.slice Ao41 t377.length co41) := (blk_cell BK381.out 3).trans rfl
       have hfz131_0 := blk_frozen BK381.out 0
       have hfz131_1 := blk_frozen BK381.out 1
       have hfz131_2 := blk_frozen BK381.out 2
       have hfz131_3 := blk_frozen BK381.out 3
       obtain ⟨Ao132, co132, eo132⟩ := Kd.R_slice HO_12.out
       subst eo132
       go_wp2_with (first | (go_at_call 15; (with_reducible refine (gambrelref15_Strings.calls kj10 _ _ t374 _ _ t395 true _ ?side1 ?side2 ?side3 ?side4 A124.out).mono ?_); (case side1 => repeat (first | exact (Kd.R_reads' HO_382002.out).2.2 | (with_reducible refine Kd.C_alloc ?_ _) | (with_reducible refine Kd.C_drewN ?_ _) | (with_reducible refine Kd.C_drew ?_))); (case side2 => exact (Kd.R_reads' HO_382002.out).2.1); (case side3 => repeat (first | exact (Kd.R_reads' HO_12.out).2.2 | (with_reducible refine Kd.C_alloc ?_ _) | (with_reducible refine Kd.C_drewN ?_ _) | (with_reducible refine Kd.C_drew ?_))); (case side4 => exact (Kd.R_reads' HO_12.out).2.1); rintro e w' ⟨rfl, ⟨nd, rfl⟩⟩; have hnb133 := NB364_358.out; have hnc133 := NB358_364.out; have hnb134 := NB364_359.out; have hnc134 := NB359_364.out; have hnb135 := NB364_368.out; have hnc135 := NB368_364.out; have hnb136 := NB364_394.out; have hnc136 := NB394_364.out; have hcz137_0 : wc.cell? ⟨gb364, 0, none⟩ = some (.int .i64 t361) := (blk_cell BK364.out 0).trans rfl; have hcz137_1 : wc.cell? ⟨gb364, 1, none⟩ = some (.int .i64 t362) := (blk_cell BK364.out 1).trans rfl; have hcz137_2 : wc.cell? ⟨gb364, 2, none⟩ = some (.int .i64 t363) := (blk_cell BK364.out 2).trans rfl; have hfz137_0 := blk_frozen BK364.out 0; have hfz137_1 := blk_frozen BK364.out 1; have hfz137_2 := blk_frozen BK364.out 2))
       go_ret
       exact ⟨by first | rfl | (simp [errW_none, errW_some] <;> rfl) | (simp [*, errW_none, errW_some] <;> rfl), by repeat (first | (with_reducible first | exact HB.out | apply below_alloc | apply pw_below_drewN | apply below_drew1 | refine below_set ?_ GE358.out | refine below_set ?_ GE359.out | refine below_set ?_ GE364.out | refine below_set ?_ GE368.out | refine below_set ?_ GE381.out | refine below_set ?_ GE394.out) | exact HB.out)⟩
      ·replace c125 := Bool.eq_false_iff.mpr c125
       subst c125
       have H1 : (some false) = some r := by rw [if_neg (show ¬ (false = true) by decide)] at H; exact H
       clear H
       have H := H1
       clear H1
       exact absurd ((Option.some.inj H).trans hr_.out) (by simp)
     ·replace c123 := Bool.eq_false_iff.mpr c123
      subst c123
      have H1 : (some false) = some r := by rw [if_neg (show ¬ (false = true) by decide)] at H; exact H
      clear H
      have H := H1
      clear H1
      exact absurd ((Option.some.inj H).trans hr_.out) (by simp)

end Go.Proofs.YtlapjnaaihpeeaaDoor.XPl
