-- WRITTEN BY this work's own program (wip/tools/xprint.py). Not trusted: Lean checks it.
import Derived.Test.YtlapjnaaihpeeaaDoorXPl0
import Derived.Test.YtlapjnaaihpeeaaDoorGix
import Derived.Maps.OwnSet
import Derived.Maps.Views
namespace Go.Proofs.YtlapjnaaihpeeaaDoor.XPl
open Go.RowKit Go.Proofs.YtlapjnaaihpeeaaDoorW.PrintWords Go.Proofs.YtlapjnaaihpeeaaDoorW.PrintLast Go.Proofs.YtlapjnaaihpeeaaDoorW.PrintMore
attribute [local go_sem] max2_int min2_int max_two min_two max_three min_three max_four min_four   -- for this text's walks alone
set_option linter.unusedVariables false
set_option linter.unusedSimpArgs false

open Go.Maps Go.WideMaps
theorem lawS : Keyed Tryd.prog 9 := string_keyed Tryd.underlying9
theorem zeroI (w : World) : (zeroValue 3).run Tryd.prog w = .ok (.int .i64 0) w := by kernel_rfl
theorem take_snoc_getD (l : List ByteArray) (k : Nat) (h : k < l.length) : l.take (k + 1) = l.take k ++ [rdOf ByteArray.empty l (k : Int)] := by
  rw [List.take_succ_eq_append_getElem h]
  simp [rdOf, List.getD_eq_getElem?_getD, h]
theorem rdOf_mem (l : List ByteArray) (k : Nat) (h : k < l.length) : rdOf ByteArray.empty l (k : Int) ∈ l := by
  simp [rdOf, List.getD_eq_getElem?_getD, h]
set_option maxRecDepth 100000 in
set_option maxHeartbeats 1000000 in
theorem plan_places.calls (A0 : Option Addr) (c0 : Nat) (l0 : List ByteArray) (w : World) (hr0 : Kd.C Kd.string w A0 l0.length l0) (hsz : ∀ s ∈ l0, s.size ≤ maxLen) (hlen : l0.length ≤ 1000000) :
    Calls Tryd.prog 17 #[.slice A0 l0.length c0] w fun e w' => e = .returned (.map (some w.heap.size)) ∧ MapIx Tryd.prog 9 3 w' w.heap.size l0 ∧ Below w.heap.size w w' := by
  have HR0 := Aside0.mk hr0
  clear hr0
  have HSZ := Aside0.mk hsz
  clear hsz
  have hmm := @run_makeMap Tryd.prog
  go_enter Tryd.func17, Tryd.ntmps17
  go_wp2
  go_loopw [9] (fun i wr => ∃ k : Nat, k ≤ l0.length ∧ i = .int .i64 k ∧ Aside0 (MapIx Tryd.prog 9 3 wr w.heap.size (l0.take k)) ∧ Aside0 (Below w.heap.size w wr))
    (fun i _ => l0.length - (intOf i).toNat)
  case atStart => exact ⟨0, Nat.zero_le _, rfl, ⟨MapIx.made _ _ _ _⟩, ⟨(Below.refl _ _).alloc (Nat.le_refl _) _⟩⟩
  case round =>
    obtain ⟨k, hk, rfl, HM, HB⟩ := hrel
    by_cases hlt : k < l0.length
    · obtain ⟨ad, e1, hx⟩ := Kd.at_string (Kd.C_below HR0.out HB.out) (k : Int) (by omega) (by omega)
      cases e1
      simp only [Int.toNat_natCast] at hx
      have HKEY := Aside0.mk (keyOf_string_mk Tryd.underlying9 (HSZ.out _ (rdOf_mem l0 k hlt)))
      have HX := Aside0.mk (take_snoc_getD l0 k hlt)
      generalize rdOf ByteArray.empty l0 (k : Int) = s at hx HKEY HX
      obtain ⟨D, hown, hmap, hd⟩ := HM.out
      have HD := Aside0.mk hd
      have HO := Aside0.mk hown
      have HMP := Aside0.mk hmap
      clear hd hown hmap
      have hl : (l0.take k).length = k := by simp; omega
      have HL := Aside0.mk hl
      clear hl
      go_wp2_with (at_mapUpdate; refine wpList_mapUpdate_own _ rfl _ _ _ 51 rfl 9 3 lawS Tryd.underlying51 _ w.heap.size _ _ rfl HO.out ?hn _ _ _ rfl rfl HKEY.out _ [] (plainElem_int Tryd.underlying3 ?hw) ?_; (case hn => rw [HL.out]; unfold maxLen; omega); (case hw => exact WalkArith.wf_i64 (by omega)); intro w1 hown1 hgrow1; have HO1 := Aside0.mk hown1; have HG1 := Aside0.mk hgrow1; clear hown1 hgrow1)
      go_roundw
      case rel =>
        refine ⟨k + 1, by omega, by go_num, ⟨?_⟩, ⟨HB.out.grown HG1.out HB.out.size (fun j hj => by cases hj; exact Nat.le_refl _)⟩⟩
        rw [HX.out]
        exact MapIx.put HMP.out HD.out (by rw [HL.out]; have := HO1.out; rw [HL.out] at this; exact this)
      case measure => simp [intOf]; omega
    · have : k = l0.length := by omega
      subst this
      go_wp2
      go_ret
      exact ⟨rfl, by have := HM.out; rwa [List.take_length] at this, HB.out⟩
theorem plan_places.calls' (A0 : Option Addr) (c0 : Nat) (l0 : List ByteArray) (w : World) (hr0 : Kd.C Kd.string w A0 l0.length l0) (hsz : ∀ s ∈ l0, s.size ≤ maxLen) (hlen : l0.length ≤ 1000000) :
    Calls Tryd.prog 17 #[.slice A0 l0.length c0] w fun e w' => ∃ B, e = .returned (.map (some B)) ∧ MapIx Tryd.prog 9 3 w' B l0 ∧ Below w.heap.size w w' :=
  (plan_places.calls A0 c0 l0 w hr0 hsz hlen).mono fun _ _ h => ⟨_, h⟩

end Go.Proofs.YtlapjnaaihpeeaaDoor.XPl
