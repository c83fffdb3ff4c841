-- WRITTEN BY this work's own program (wip/tools/xprint.py). Not trusted: Lean checks it.
import Derived.Test.YtlapjnaaihpeeaaDoorXPl0
import Derived.Test.YtlapjnaaihpeeaaDoorGix
import Derived.Test.YtlapjnaaihpeeaaDoorGplan_places
import Derived.Maps.OwnSet
namespace Go.Proofs.YtlapjnaaihpeeaaDoor.XPl
open Go.RowKit Go.Proofs.YtlapjnaaihpeeaaDoorW.PrintWords Go.Proofs.YtlapjnaaihpeeaaDoorW.PrintLast Go.Proofs.YtlapjnaaihpeeaaDoorW.PrintMore
attribute [local go_sem] max2_int min2_int max_two min_two max_three min_three max_four min_four   -- for this text's walks alone
set_option linter.unusedVariables false
set_option linter.unusedSimpArgs false

open Go.Maps Go.WideMaps
def toWrite (a : List ByteArray) (l : List Int) (s : ByteArray) : Bool := match ix a s with
  | none => true
  | some i => rd l (i : Int) != 0
def toDrop (b : List ByteArray) (s : ByteArray) : Bool := (ix b s).isNone
set_option maxRecDepth 100000 in
set_option maxHeartbeats 1000000 in
theorem plan_Of2.calls (s : ByteArray) (g1 B : Nat) (b : List ByteArray) (W : World) (h1 : W.heap[g1]? = some (.cells #[.map (some B)] 51 (0, 0))) (hm : MapIx Tryd.prog 9 3 W B b) (hs : s.size ≤ maxLen) :
    Calls Tryd.prog 20 #[.string s, .pointer (some ⟨g1, 0, none⟩)] W fun e w' => e = .returned (.bool (toDrop b s)) ∧ Drawn0 W w' := by
  have hc1 := (blk_cell h1 0).trans rfl
  obtain ⟨D, hown, _, hd⟩ := hm
  have HO := Aside0.mk hown
  have HKEY := Aside0.mk (keyOf_string_mk Tryd.underlying9 hs)
  have HD := Aside0.mk (hd s)
  clear hown hd h1
  go_enter Tryd.func20, Tryd.ntmps20
  go_wp2_with (at_lookup; refine wpList_lookup_own_ok_int W rfl _ _ 51 rfl 9 3 .i64 lawS Tryd.underlying51 Tryd.underlying3 (zeroI _) B _ D rfl HO.out _ _ rfl HKEY.out ?_; intro c hat hwc; rw [HD.out.1]; clear hat hwc)
  go_ret
  exact ⟨rfl, Drawn0.refl _⟩
set_option maxRecDepth 100000 in
set_option maxHeartbeats 1000000 in
theorem plan_Of1.calls (s : ByteArray) (g1 g2 B : Nat) (A2 : Option Addr) (c2 : Nat) (l : List Int) (a : List ByteArray) (W : World) (h1 : W.heap[g1]? = some (.cells #[.map (some B)] 51 (0, 0))) (h2 : W.heap[g2]? = some (.cells #[.slice A2 l.length c2] 26 (0, 0)))
    (hr : Kd.C (Kd.int .i64) W A2 l.length l) (hl : l.length = a.length) (hlen : a.length ≤ 1000000) (hm : MapIx Tryd.prog 9 3 W B a) (hs : s.size ≤ maxLen) :
    Calls Tryd.prog 19 #[.string s, .pointer (some ⟨g1, 0, none⟩), .pointer (some ⟨g2, 0, none⟩)] W fun e w' => e = .returned (.bool (toWrite a l s)) ∧ Drawn0 W w' := by
  have hc1 := (blk_cell h1 0).trans rfl
  have hc2 := (blk_cell h2 0).trans rfl
  obtain ⟨D, hown, _, hd⟩ := hm
  have HO := Aside0.mk hown
  have HKEY := Aside0.mk (keyOf_string_mk Tryd.underlying9 hs)
  have HD := Aside0.mk (hd s)
  have HR := Aside0.mk hr
  have HL := Aside0.mk hl
  clear hown hd h1 h2 hr hl
  unfold toWrite
  cases hix : ix a s with
  | none =>
    have HIX := Aside0.mk hix
    clear hix
    go_enter Tryd.func19, Tryd.ntmps19
    go_wp2_with (at_lookup; refine wpList_lookup_own_ok_int W rfl _ _ 51 rfl 9 3 .i64 lawS Tryd.underlying51 Tryd.underlying3 (zeroI _) B _ D rfl HO.out _ _ rfl HKEY.out ?_; intro c hat hwc; rw [HD.out.1, HIX.out]; clear hat hwc)
    go_ret
    exact ⟨rfl, Drawn0.refl _⟩
  | some i =>
    have HIX := Aside0.mk hix
    have hi := ix_lt _ rfl hix
    rw [← HL.out] at hi
    rw [← HL.out] at hlen
    clear hix
    obtain ⟨ad, e1, hx⟩ := Kd.at_int HR.out (i : Int) (by omega) (by omega)
    cases e1
    simp only [Int.toNat_natCast] at hx
    have hz : (match some i with | none => true | some i => rd l (i : Int) != 0) = (rd l (i : Int) != 0) := rfl
    rw [hz]
    clear hz
    generalize rd l (i : Int) = z at hx ⊢
    go_enter Tryd.func19, Tryd.ntmps19
    go_wp2_with (at_lookup; refine wpList_lookup_own_ok_int W rfl _ _ 51 rfl 9 3 .i64 lawS Tryd.underlying51 Tryd.underlying3 (zeroI _) B _ D rfl HO.out _ _ rfl HKEY.out ?_; intro c hat hwc; have hat2 := hat.symm.trans HD.out.2; rw [HIX.out] at hat2; injection hat2 with hat3; injection hat3 with _ hat4; simp only [Option.getD_some] at hat4; subst hat4; rw [HD.out.1, HIX.out]; clear hat hwc)
    go_ret
    exact ⟨rfl, Drawn0.refl _⟩

end Go.Proofs.YtlapjnaaihpeeaaDoor.XPl
