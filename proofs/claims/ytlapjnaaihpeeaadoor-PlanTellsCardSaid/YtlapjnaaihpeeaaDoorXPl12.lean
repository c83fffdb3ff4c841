-- WRITTEN BY this work's own program (wip/tools/xprint.py). Not trusted: Lean checks it.
import Derived.Test.YtlapjnaaihpeeaaDoorXPl0
import Derived.Test.YtlapjnaaihpeeaaDoorXPl9
import Derived.Test.YtlapjnaaihpeeaaDoorXPl10
import Derived.Test.YtlapjnaaihpeeaaDoorXPl11
namespace Go.Proofs.YtlapjnaaihpeeaaDoor.XPl
open Go.RowKit Go.Proofs.YtlapjnaaihpeeaaDoorW.PrintWords Go.Proofs.YtlapjnaaihpeeaaDoorW.PrintLast Go.Proofs.YtlapjnaaihpeeaaDoorW.PrintMore
attribute [local go_sem] max2_int min2_int max_two min_two max_three min_three max_four min_four   -- for this text's walks alone
set_option linter.unusedVariables false
set_option linter.unusedSimpArgs false

theorem gambrelref22_Of.calls (k : Nat) (a0 : ByteArray) (a1_0 : Int) (a1_1 : Int) (a1_2 : Int) (A2 : Option Addr) (c2 : Nat) (l2 : List Int) (a3_0 : Int) (a3_1 : Int) (a3_2 : Int) (r1 : Bool) (r2 : Bool) (r3 : List ByteArray) (r4 : List ByteArray) (r5 : Int) (w : World) (hr2 : Kd.C (Kd.int .i64) w A2 l2.length l2) (hc2 : l2.length ≤ c2) (h : gambrelref22_Of.f k a0 a1_0 a1_1 a1_2 l2 a3_0 a3_1 a3_2 = some (r1, r2, r3, r4, r5)) :
  Calls Tryd.prog 9 #[.string a0, .agg #[.int .i64 a1_0, .int .i64 a1_1, .int .i64 a1_2], .slice A2 l2.length c2, .agg #[.int .i64 a3_0, .int .i64 a3_1, .int .i64 a3_2]] w fun e w' => ∃ v2_ v3_ : Value, e = .returned (.tuple #[.agg #[.bool r1, .bool r2, v2_, v3_], .int .i64 r5]) ∧ Kd.R Kd.string 9 w' w.heap.size (fun k_ => some k_ ≠ (v3_ : Value).ownBlock) v2_ r3 ∧ Kd.R Kd.string 9 w' w.heap.size (fun k_ => some k_ ≠ (v2_ : Value).ownBlock) v3_ r4 ∧ Below w.heap.size w w' := by
 by_cases hx_ : a1_1 = a3_1
 ·exact gambrelref22_Of.calls_1 k a0 a1_0 a1_1 a1_2 A2 c2 l2 a3_0 a3_1 a3_2 r1 r2 r3 r4 r5 w hr2 hc2 ⟨hx_⟩ h
 ·exact gambrelref22_Of.calls_2 k a0 a1_0 a1_1 a1_2 A2 c2 l2 a3_0 a3_1 a3_2 r1 r2 r3 r4 r5 w hr2 hc2 ⟨hx_⟩ h

end Go.Proofs.YtlapjnaaihpeeaaDoor.XPl
