-- WRITTEN BY this work's own program (wip/tools/xprint.py). Not trusted: Lean checks it.
import Derived.Test.YtlapjnaaihpeeaaDoorXPl0
import Derived.Test.YtlapjnaaihpeeaaDoorShelfP
namespace Go.Proofs.YtlapjnaaihpeeaaDoor.XPl
open Go.RowKit Go.Proofs.YtlapjnaaihpeeaaDoorW.PrintWords Go.Proofs.YtlapjnaaihpeeaaDoorW.PrintLast Go.Proofs.YtlapjnaaihpeeaaDoorW.PrintMore
attribute [local go_sem] max2_int min2_int max_two min_two max_three min_three max_four min_four   -- for this text's walks alone
set_option linter.unusedVariables false
set_option linter.unusedSimpArgs false

/-! ### names_May: given by hand -/
def names_May.f (a0 : ByteArray) : Option Bool :=
  if (a0.size : Int) < 1 then some false else if 8 < (a0.size : Int) then some false
  else some (Lib.trimS a0.data.toList [97, 98, 99, 100, 101, 102, 103, 104, 105, 106, 107, 108, 109, 110, 111, 112, 113, 114, 115, 116, 117, 118, 119, 120, 121, 122]).isEmpty
set_option maxHeartbeats 1000000 in
theorem names_May.calls (a0 : ByteArray) (r : Bool) (w : World) (h : names_May.f a0 = some r) :
    Calls Tryd.prog 27 #[.string a0] w fun e w' => e = .returned (.bool r) ∧ Below w.heap.size w w' := by
  unfold names_May.f at h
  by_cases h1 : (a0.size : Int) < 1
  · rw [if_pos h1] at h; obtain rfl : false = r := by simpa using h
    clear h
    go_enter Tryd.func27, Tryd.ntmps27
    go_wp2
    go_ret
    exact ⟨rfl, Below.refl _ _⟩
  rw [if_neg h1] at h
  by_cases h2 : 8 < (a0.size : Int)
  · rw [if_pos h2] at h; obtain rfl : false = r := by simpa using h
    clear h
    go_enter Tryd.func27, Tryd.ntmps27
    go_wp2
    go_ret
    exact ⟨rfl, Below.refl _ _⟩
  rw [if_neg h2] at h
  have hcon := Go.Proofs.Any.strings_Trim_laid Tryd.lays160 (by kernel_rfl) a0 ⟨#[97, 98, 99, 100, 101, 102, 103, 104, 105, 106, 107, 108, 109, 110, 111, 112, 113, 114, 115, 116, 117, 118, 119, 120, 121, 122]⟩ w (by omega) (by decide) (Go.Proofs.ascii_of_all (by decide))
  change Calls Tryd.prog 32 _ _ (fun e w' => e = .returned (.string ⟨(Lib.trimS a0.data.toList [97, 98, 99, 100, 101, 102, 103, 104, 105, 106, 107, 108, 109, 110, 111, 112, 113, 114, 115, 116, 117, 118, 119, 120, 121, 122]).toArray⟩) ∧ Below w.heap.size w w') at hcon
  generalize Lib.trimS a0.data.toList [97, 98, 99, 100, 101, 102, 103, 104, 105, 106, 107, 108, 109, 110, 111, 112, 113, 114, 115, 116, 117, 118, 119, 120, 121, 122] = l at hcon h
  obtain rfl : l.isEmpty = r := by simpa using h
  clear h
  go_enter Tryd.func27, Tryd.ntmps27
  go_wp2_with (go_at_call 32; refine hcon.mono ?_; rintro e w' ⟨rfl, hB⟩)
  go_ret
  refine ⟨?_, hB⟩
  trace_state
  simp

end Go.Proofs.YtlapjnaaihpeeaaDoor.XPl
