-- WRITTEN BY this work's own program (wip/tools/xprint.py). Not trusted: Lean checks it.
import Derived.Test.YtlapjnaaihpeeaaDoorXPl0
import Derived.Test.YtlapjnaaihpeeaaDoorXPl1
import Derived.Test.YtlapjnaaihpeeaaDoorXPl6
import Derived.Test.YtlapjnaaihpeeaaDoorXPl8
namespace Go.Proofs.YtlapjnaaihpeeaaDoor.XPl
open Go.RowKit Go.Proofs.YtlapjnaaihpeeaaDoorW.PrintWords Go.Proofs.YtlapjnaaihpeeaaDoorW.PrintLast Go.Proofs.YtlapjnaaihpeeaaDoorW.PrintMore
attribute [local go_sem] max2_int min2_int max_two min_two max_three min_three max_four min_four   -- for this text's walks alone
set_option linter.unusedVariables false
set_option linter.unusedSimpArgs false

attribute [local go_sem high] eqA23
/-! ### gambrelref22_Of: function 9 -/
mutual
def gambrelref22_Of.j0 : Nat → ByteArray → List Int → Bool → Int → Int → Int → Int → Int → Int → Option (Bool × Bool × List ByteArray × List ByteArray × Int)
 | 0, _, _, _, _, _, _, _, _, _ => none
 | k + 1, x0, x2, x44, x216000, x216001, x216002, x217000, x217001, x217002 => if x44 = true then (some (false, false, ([] : List ByteArray), ([] : List ByteArray), 1)) else ((gambrelref09_Of.f x216000).bind fun bt221 => ((gambrelref09_Of.f x217000).bind fun bt228 => (if x216001 = x217001 then ((gambrelref15_Set.f k x0 x216000 x216001 x216002).bind fun bt236 => ((gambrelref15_Set.f k x0 x217000 x217001 x217002).bind fun bt240 => (gambrelref22_Of.l0 k x2 bt236.1 bt240.1 0 (eqT23 x216000 x217000 x216001 x217001 x216002 x217002) (bt221.2.2.2.1 == bt228.2.2.2.1) ([] : List ByteArray)))) else ((gambrelref15_Set.f k x0 x216000 x216001 x216002).bind fun bt261 => ((gambrelref15_Set.f k x0 x217000 x217001 x217002).bind fun bt265 => (gambrelref22_Of.l0 k x2 bt261.1 bt265.1 0 (eqT23 x216000 x217000 x216001 x217001 x216002 x217002) false ([] : List ByteArray)))))))
def gambrelref22_Of.l0 : Nat → List Int → List ByteArray → List ByteArray → Int → Bool → Bool → List ByteArray → Option (Bool × Bool × List ByteArray × List ByteArray × Int)
 | 0, _, _, _, _, _, _, _ => none
 | k + 1, x2, x15, x17, x19, x236000, x236001, x236002 => if x19 < (x17.length : Int) then (if 0 ≤ x19 then ((gambrelref22_at.f k x15 (rdOf ByteArray.empty x17 x19)).bind fun t245 => (if t245 < 0 then (if x236002.length < 8796093022208 then (gambrelref22_Of.l0 k x2 x15 x17 (wrap64 (x19 + 1)) x236000 x236001 (x236002 ++ [rdOf ByteArray.empty x17 x19])) else (none)) else (if 0 ≤ t245 then (if t245 < (x2.length : Int) then (if (rd x2 t245) = 0 then (gambrelref22_Of.l0 k x2 x15 x17 (wrap64 (x19 + 1)) x236000 x236001 x236002) else (if x236002.length < 8796093022208 then (gambrelref22_Of.l0 k x2 x15 x17 (wrap64 (x19 + 1)) x236000 x236001 (x236002 ++ [rdOf ByteArray.empty x17 x19])) else (none))) else (none)) else (none)))) else (none)) else (gambrelref22_Of.l1 k x15 x17 0 x236000 x236001 x236002 ([] : List ByteArray))
def gambrelref22_Of.l1 : Nat → List ByteArray → List ByteArray → Int → Bool → Bool → List ByteArray → List ByteArray → Option (Bool × Bool × List ByteArray × List ByteArray × Int)
 | 0, _, _, _, _, _, _, _ => none
 | k + 1, x15, x17, x21, x236000, x236001, x236002, x236003 => if x21 < (x15.length : Int) then (if 0 ≤ x21 then ((gambrelref22_at.f k x17 (rdOf ByteArray.empty x15 x21)).bind fun t256 => (if t256 < 0 then (if x236003.length < 8796093022208 then (gambrelref22_Of.l1 k x15 x17 (wrap64 (x21 + 1)) x236000 x236001 x236002 (x236003 ++ [rdOf ByteArray.empty x15 x21])) else (none)) else (gambrelref22_Of.l1 k x15 x17 (wrap64 (x21 + 1)) x236000 x236001 x236002 x236003))) else (none)) else (some (x236000, x236001, x236002, x236003, 0))
end
def gambrelref22_Of.f (k : Nat) (a0 : ByteArray) (a1_0 : Int) (a1_1 : Int) (a1_2 : Int) (l2 : List Int) (a3_0 : Int) (a3_1 : Int) (a3_2 : Int) : Option (Bool × Bool × List ByteArray × List ByteArray × Int) := (gambrelref15_May.f k a0).bind fun t218 => (if t218 = true then ((gambrelref09_May.f a1_0 a1_1 a1_2).bind fun t219 => (if t219 = true then ((gambrelref09_May.f a3_0 a3_1 a3_2).bind fun t220 => (if t220 = true then (gambrelref22_Of.j0 k a0 l2 ((l2.length : Int) != (wrap64 (a1_1 + a1_2))) a1_0 a1_1 a1_2 a3_0 a3_1 a3_2) else (gambrelref22_Of.j0 k a0 l2 true a1_0 a1_1 a1_2 a3_0 a3_1 a3_2))) else (gambrelref22_Of.j0 k a0 l2 true a1_0 a1_1 a1_2 a3_0 a3_1 a3_2))) else (gambrelref22_Of.j0 k a0 l2 true a1_0 a1_1 a1_2 a3_0 a3_1 a3_2))
theorem gambrelref22_Of.mono_l : ∀ k, (∀ y0 y1 y2 y3 y4 y5 y6 y7 y8, LeO (gambrelref22_Of.j0 k y0 y1 y2 y3 y4 y5 y6 y7 y8) (gambrelref22_Of.j0 (k + 1) y0 y1 y2 y3 y4 y5 y6 y7 y8)) ∧ (∀ y0 y1 y2 y3 y4 y5 y6, LeO (gambrelref22_Of.l0 k y0 y1 y2 y3 y4 y5 y6) (gambrelref22_Of.l0 (k + 1) y0 y1 y2 y3 y4 y5 y6)) ∧ (∀ y0 y1 y2 y3 y4 y5 y6, LeO (gambrelref22_Of.l1 k y0 y1 y2 y3 y4 y5 y6) (gambrelref22_Of.l1 (k + 1) y0 y1 y2 y3 y4 y5 y6))
 | 0 => ⟨fun _ _ _ _ _ _ _ _ _ r h => by simp [gambrelref22_Of.j0] at h, fun _ _ _ _ _ _ _ r h => by simp [gambrelref22_Of.l0] at h, fun _ _ _ _ _ _ _ r h => by simp [gambrelref22_Of.l1] at h⟩
 | k + 1 => by
  obtain ⟨ih0, ih1, ih2⟩ := gambrelref22_Of.mono_l k
  refine ⟨?_, ?_, ?_⟩
  ·intro y0 y1 y2 y3 y4 y5 y6 y7 y8
   unfold gambrelref22_Of.j0
   repeat' first
   | (with_reducible exact ih0 _ _ _ _ _ _ _ _ _)
   | (with_reducible exact ih1 _ _ _ _ _ _ _)
   | (with_reducible exact ih2 _ _ _ _ _ _ _)
   | (with_reducible exact gambrelref15_May.mono _ _)
   | (with_reducible exact gambrelref15_Set.mono _ _ _ _ _)
   | (with_reducible exact gambrelref22_at.mono _ _ _)
   | (with_reducible exact LeO.refl _)
   | (with_reducible exact LeO.none _)
   | (with_reducible refine LeO.ite ?_ ?_)
   | (with_reducible refine LeO.bind ?_ (fun _ => ?_))
   | exact ih0 _ _ _ _ _ _ _ _ _
   | exact ih1 _ _ _ _ _ _ _
   | exact ih2 _ _ _ _ _ _ _
   | exact gambrelref15_May.mono _ _
   | exact gambrelref15_Set.mono _ _ _ _ _
   | exact gambrelref22_at.mono _ _ _
   | exact LeO.none _
   | refine LeO.ite ?_ ?_
   | refine LeO.bind ?_ (fun _ => ?_)
  ·intro y0 y1 y2 y3 y4 y5 y6
   unfold gambrelref22_Of.l0
   repeat' first
   | (with_reducible exact ih0 _ _ _ _ _ _ _ _ _)
   | (with_reducible exact ih1 _ _ _ _ _ _ _)
   | (with_reducible exact ih2 _ _ _ _ _ _ _)
   | (with_reducible exact gambrelref15_May.mono _ _)
   | (with_reducible exact gambrelref15_Set.mono _ _ _ _ _)
   | (with_reducible exact gambrelref22_at.mono _ _ _)
   | (with_reducible exact LeO.refl _)
   | (with_reducible exact LeO.none _)
   | (with_reducible refine LeO.ite ?_ ?_)
   | (with_reducible refine LeO.bind ?_ (fun _ => ?_))
   | exact ih0 _ _ _ _ _ _ _ _ _
   | exact ih1 _ _ _ _ _ _ _
   | exact ih2 _ _ _ _ _ _ _
   | exact gambrelref15_May.mono _ _
   | exact gambrelref15_Set.mono _ _ _ _ _
   | exact gambrelref22_at.mono _ _ _
   | exact LeO.none _
   | refine LeO.ite ?_ ?_
   | refine LeO.bind ?_ (fun _ => ?_)
  ·intro y0 y1 y2 y3 y4 y5 y6
   unfold gambrelref22_Of.l1
   repeat' first
   | (with_reducible exact ih0 _ _ _ _ _ _ _ _ _)
   | (with_reducible exact ih1 _ _ _ _ _ _ _)
   | (with_reducible exact ih2 _ _ _ _ _ _ _)
   | (with_reducible exact gambrelref15_May.mono _ _)
   | (with_reducible exact gambrelref15_Set.mono _ _ _ _ _)
   | (with_reducible exact gambrelref22_at.mono _ _ _)
   | (with_reducible exact LeO.refl _)
   | (with_reducible exact LeO.none _)
   | (with_reducible refine LeO.ite ?_ ?_)
   | (with_reducible refine LeO.bind ?_ (fun _ => ?_))
   | exact ih0 _ _ _ _ _ _ _ _ _
   | exact ih1 _ _ _ _ _ _ _
   | exact ih2 _ _ _ _ _ _ _
   | exact gambrelref15_May.mono _ _
   | exact gambrelref15_Set.mono _ _ _ _ _
   | exact gambrelref22_at.mono _ _ _
   | exact LeO.none _
   | refine LeO.ite ?_ ?_
   | refine LeO.bind ?_ (fun _ => ?_)
theorem gambrelref22_Of.mono : ∀ a0 a1 a2 a3 a4 a5 a6 a7 k, LeO (gambrelref22_Of.f k a0 a1 a2 a3 a4 a5 a6 a7) (gambrelref22_Of.f (k + 1) a0 a1 a2 a3 a4 a5 a6 a7) := by
 intro a0 a1 a2 a3 a4 a5 a6 a7 k
 obtain ⟨ih0, ih1, ih2⟩ := gambrelref22_Of.mono_l k
 unfold gambrelref22_Of.f
 repeat' first
   | (with_reducible exact ih0 _ _ _ _ _ _ _ _ _)
   | (with_reducible exact ih1 _ _ _ _ _ _ _)
   | (with_reducible exact ih2 _ _ _ _ _ _ _)
   | (with_reducible exact gambrelref15_May.mono _ _)
   | (with_reducible exact gambrelref15_Set.mono _ _ _ _ _)
   | (with_reducible exact gambrelref22_at.mono _ _ _)
   | (with_reducible exact LeO.refl _)
   | (with_reducible exact LeO.none _)
   | (with_reducible refine LeO.ite ?_ ?_)
   | (with_reducible refine LeO.bind ?_ (fun _ => ?_))
   | exact ih0 _ _ _ _ _ _ _ _ _
   | exact ih1 _ _ _ _ _ _ _
   | exact ih2 _ _ _ _ _ _ _
   | exact gambrelref15_May.mono _ _
   | exact gambrelref15_Set.mono _ _ _ _ _
   | exact gambrelref22_at.mono _ _ _
   | exact LeO.none _
   | refine LeO.ite ?_ ?_
   | refine LeO.bind ?_ (fun _ => ?_)
def gambrelref22_Of.T5 : Bool × List (List Nat × List Nat) := (true, [([], []), ([], []), ([0, 1], [0, 1]), ([], []), ([3], [3]), ([], []), ([5], [5]), ([4, 6], [4, 6]), ([7], [7]), ([8], [8]), ([9, 8], [8, 9]), ([8], [8]), ([11, 8], [8, 11]), ([10, 12, 8], [8, 10, 12]), ([8, 13], [8, 13]), ([2, 14], [2, 14]), ([], []), ([16, 15, 8, 0, 1, 2, 3, 4, 5, 6, 7, 8, 9, 10, 11, 12, 13, 14, 15, 16], [15, 16])])
def gambrelref22_Of.B5 : List Nat := [0, 0, 3, 0, 8, 0, 32, 120, 248, 504, 1016, 504, 2552, 8184, 16376, 32767, 0, 131071]
theorem gambrelref22_Of.tab5 : rtab .any (opsOf Tryd.f9 5) = gambrelref22_Of.T5 := by kernel_rfl
theorem gambrelref22_Of.bits5 : waitsOk gambrelref22_Of.T5.2 gambrelref22_Of.B5 = true := by kernel_rfl
def gambrelref22_Of.T13 : Bool × List (List Nat × List Nat) := (true, [([], []), ([0], [0]), ([], []), ([], []), ([2, 3], [2, 3]), ([4], [4]), ([5], [5]), ([1, 6], [1, 6]), ([0, 1, 2, 3, 4, 5, 6, 7], []), ([8, 7, 7, 0, 1, 2, 3, 4, 5, 6, 7], [7, 8])])
def gambrelref22_Of.B13 : List Nat := [0, 1, 0, 0, 12, 28, 60, 127, 255, 511]
theorem gambrelref22_Of.tab13 : rtab .any (opsOf Tryd.f9 13) = gambrelref22_Of.T13 := by kernel_rfl
theorem gambrelref22_Of.bits13 : waitsOk gambrelref22_Of.T13.2 gambrelref22_Of.B13 = true := by kernel_rfl
def gambrelref22_Of.T18 : Bool × List (List Nat × List Nat) := (true, [([], []), ([0], [0]), ([], []), ([], []), ([2, 3], [2, 3]), ([4], [4]), ([5], [5]), ([1, 6], [1, 6]), ([0, 1, 2, 3, 4, 5, 6, 7], []), ([8, 7, 7, 0, 1, 2, 3, 4, 5, 6, 7], [7, 8])])
def gambrelref22_Of.B18 : List Nat := [0, 1, 0, 0, 12, 28, 60, 127, 255, 511]
theorem gambrelref22_Of.tab18 : rtab .any (opsOf Tryd.f9 18) = gambrelref22_Of.T18 := by kernel_rfl
theorem gambrelref22_Of.bits18 : waitsOk gambrelref22_Of.T18.2 gambrelref22_Of.B18 = true := by kernel_rfl
end Go.Proofs.YtlapjnaaihpeeaaDoor.XPl
