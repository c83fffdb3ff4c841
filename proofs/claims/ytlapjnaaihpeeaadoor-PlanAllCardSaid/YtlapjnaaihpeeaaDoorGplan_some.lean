-- WRITTEN BY this work's own program (wip/tools/xprint.py). Not trusted: Lean checks it.
import Derived.Test.YtlapjnaaihpeeaaDoorXPl0
import Derived.Test.YtlapjnaaihpeeaaDoorGplan_places
namespace Go.Proofs.YtlapjnaaihpeeaaDoor.XPl
open Go.RowKit Go.Proofs.YtlapjnaaihpeeaaDoorW.PrintWords Go.Proofs.YtlapjnaaihpeeaaDoorW.PrintLast Go.Proofs.YtlapjnaaihpeeaaDoorW.PrintMore
attribute [local go_sem] max2_int min2_int max_two min_two max_three min_three max_four min_four   -- for this text's walks alone
set_option linter.unusedVariables false
set_option linter.unusedSimpArgs false

set_option maxRecDepth 100000 in
set_option maxHeartbeats 2000000 in
theorem plan_some2.calls (p : ByteArray → Bool) (q0 q1 : Value) (A0 : Option Addr) (c0 : Nat) (l0 : List ByteArray) (w : World) (hr0 : Kd.C Kd.string w A0 l0.length l0) (hlen : l0.length ≤ 1000000)
    (hp : ∀ W s, s ∈ l0 → Below w.heap.size w W → Calls Tryd.prog 19 #[.string s, q0, q1] W fun e w' => e = .returned (.bool (p s)) ∧ Drawn0 W w') :
    Calls Tryd.prog 18 #[.slice A0 l0.length c0, .func (.func 19) #[] #[q0, q1]] w fun e w' => ∃ v0_ : Value, e = .returned v0_ ∧ Kd.R Kd.string 9 w' w.heap.size (fun _ => True) v0_ (l0.filter p) ∧ Below w.heap.size w w' := by
  have HR0 := Aside0.mk hr0
  clear hr0
  have HP := Aside0.mk hp
  clear hp
  go_enter Tryd.func18, Tryd.ntmps18
  go_wp2
  go_loopw [5, 10] (fun v i wr => ∃ k : Nat, k ≤ l0.length ∧ i = .int .i64 k ∧ Aside0 (Kd.R Kd.string 9 wr w.heap.size (fun _ => True) v ((l0.take k).filter p)) ∧ Aside0 (Below w.heap.size w wr))
    (fun _ i _ => l0.length - (intOf i).toNat)
  case atStart => exact ⟨0, Nat.zero_le _, rfl, ⟨Kd.R_nil _ _ _ _ _⟩, ⟨Below.refl _ _⟩⟩
  case round =>
    obtain ⟨k, hk, rfl, HO, HB⟩ := hrel
    by_cases hlt : k < l0.length
    · obtain ⟨ad, e1, hx⟩ := Kd.at_string (Kd.C_below HR0.out HB.out) (k : Int) (by omega) (by omega)
      cases e1
      simp only [Int.toNat_natCast] at hx
      have HX := Aside0.mk (take_snoc_getD l0 k hlt)
      have HC := Aside0.mk (HP.out wr _ (rdOf_mem l0 k hlt) HB.out)
      generalize rdOf ByteArray.empty l0 (k : Int) = s at hx HC HX
      have HL := Aside0.mk (show ((l0.take k).filter p).length ≤ k from Nat.le_trans (List.length_filter_le _ _) (by simp; omega))
      go_wp2_with fail
      refine HC.out.mono ?_
      rintro e w' ⟨rfl, ⟨nd, rfl⟩⟩
      cases hps : p s with
      | false =>
        have HPS := Aside0.mk hps
        clear hps
        go_wp2
        go_roundw
        case rel =>
          refine ⟨k + 1, by omega, by go_num, ⟨?_⟩, ⟨by repeat (first | exact HB.out | apply pw_below_drewN)⟩⟩
          rw [HX.out, List.filter_append]
          simp only [List.filter_cons, HPS.out, List.filter_nil, List.append_nil, Bool.false_eq_true, if_false]
          exact Kd.R_drewN HO.out _
        case measure => simp [intOf]; omega
      | true =>
        have HPS := Aside0.mk hps
        clear hps
        go_wp2_with ((with_reducible refine gate_builtin (b := .append) (xs := #[.tmp 17, .tmp 19]) rfl ?_); at_builtin; refine Kd.R_append Kd.string (w0 := w) w.heap.size rfl (.tmp 17) (.tmp 19) 28 9 (.string ⟨#[]⟩) 16 rfl Tryd.underlying28 (by kernel_rfl) rfl (by decide) (by omega) _ ((l0.take k).filter p) s [.string s] (fun _ => True) (fun _ => False) rfl rfl ?aP (fun _ hk => hk.elim) ?aF ?aO ?aB ?aS ?aL ?_; (case aP => exact rfl); (case aB => exact (by repeat (first | exact HB.out | apply below_alloc | apply pw_below_drewN | apply below_drew1))); (case aF => exact (fun _ _ => trivial)); (case aO => exact (by (with_reducible repeat (first | apply Kd.R_alloc | apply Kd.R_drewN | apply Kd.R_drew)); exact HO.out)); (case aS => exact (below_size (by repeat (first | exact HB.out | apply below_alloc | apply pw_below_drewN | apply below_drew1)))); (case aL => have := HL.out; omega); intro v189 w16 ho hb hg hat; have HO1 := Aside0.mk ho; have HB1 := Aside0.mk hb; clear ho hb hg hat)
        go_roundw
        case rel =>
          refine ⟨k + 1, by omega, by go_num, ⟨?_⟩, HB1⟩
          rw [HX.out, List.filter_append]
          simp only [List.filter_cons, HPS.out, List.filter_nil, if_true]
          exact HO1.out
        case measure => simp [intOf]; omega
    · have : k = l0.length := by omega
      subst this
      go_wp2
      go_ret
      exact ⟨_, rfl, by have := HO.out; rwa [List.take_length] at this, HB.out⟩
set_option maxRecDepth 100000 in
set_option maxHeartbeats 2000000 in
theorem plan_some1.calls (p : ByteArray → Bool) (q0 : Value) (A0 : Option Addr) (c0 : Nat) (l0 : List ByteArray) (w : World) (hr0 : Kd.C Kd.string w A0 l0.length l0) (hlen : l0.length ≤ 1000000)
    (hp : ∀ W s, s ∈ l0 → Below w.heap.size w W → Calls Tryd.prog 20 #[.string s, q0] W fun e w' => e = .returned (.bool (p s)) ∧ Drawn0 W w') :
    Calls Tryd.prog 18 #[.slice A0 l0.length c0, .func (.func 20) #[] #[q0]] w fun e w' => ∃ v0_ : Value, e = .returned v0_ ∧ Kd.R Kd.string 9 w' w.heap.size (fun _ => True) v0_ (l0.filter p) ∧ Below w.heap.size w w' := by
  have HR0 := Aside0.mk hr0
  clear hr0
  have HP := Aside0.mk hp
  clear hp
  go_enter Tryd.func18, Tryd.ntmps18
  go_wp2
  go_loopw [5, 10] (fun v i wr => ∃ k : Nat, k ≤ l0.length ∧ i = .int .i64 k ∧ Aside0 (Kd.R Kd.string 9 wr w.heap.size (fun _ => True) v ((l0.take k).filter p)) ∧ Aside0 (Below w.heap.size w wr))
    (fun _ i _ => l0.length - (intOf i).toNat)
  case atStart => exact ⟨0, Nat.zero_le _, rfl, ⟨Kd.R_nil _ _ _ _ _⟩, ⟨Below.refl _ _⟩⟩
  case round =>
    obtain ⟨k, hk, rfl, HO, HB⟩ := hrel
    by_cases hlt : k < l0.length
    · obtain ⟨ad, e1, hx⟩ := Kd.at_string (Kd.C_below HR0.out HB.out) (k : Int) (by omega) (by omega)
      cases e1
      simp only [Int.toNat_natCast] at hx
      have HX := Aside0.mk (take_snoc_getD l0 k hlt)
      have HC := Aside0.mk (HP.out wr _ (rdOf_mem l0 k hlt) HB.out)
      generalize rdOf ByteArray.empty l0 (k : Int) = s at hx HC HX
      have HL := Aside0.mk (show ((l0.take k).filter p).length ≤ k from Nat.le_trans (List.length_filter_le _ _) (by simp; omega))
      go_wp2_with fail
      refine HC.out.mono ?_
      rintro e w' ⟨rfl, ⟨nd, rfl⟩⟩
      cases hps : p s with
      | false =>
        have HPS := Aside0.mk hps
        clear hps
        go_wp2
        go_roundw
        case rel =>
          refine ⟨k + 1, by omega, by go_num, ⟨?_⟩, ⟨by repeat (first | exact HB.out | apply pw_below_drewN)⟩⟩
          rw [HX.out, List.filter_append]
          simp only [List.filter_cons, HPS.out, List.filter_nil, List.append_nil, Bool.false_eq_true, if_false]
          exact Kd.R_drewN HO.out _
        case measure => simp [intOf]; omega
      | true =>
        have HPS := Aside0.mk hps
        clear hps
        go_wp2_with ((with_reducible refine gate_builtin (b := .append) (xs := #[.tmp 17, .tmp 19]) rfl ?_); at_builtin; refine Kd.R_append Kd.string (w0 := w) w.heap.size rfl (.tmp 17) (.tmp 19) 28 9 (.string ⟨#[]⟩) 16 rfl Tryd.underlying28 (by kernel_rfl) rfl (by decide) (by omega) _ ((l0.take k).filter p) s [.string s] (fun _ => True) (fun _ => False) rfl rfl ?aP (fun _ hk => hk.elim) ?aF ?aO ?aB ?aS ?aL ?_; (case aP => exact rfl); (case aB => exact (by repeat (first | exact HB.out | apply below_alloc | apply pw_below_drewN | apply below_drew1))); (case aF => exact (fun _ _ => trivial)); (case aO => exact (by (with_reducible repeat (first | apply Kd.R_alloc | apply Kd.R_drewN | apply Kd.R_drew)); exact HO.out)); (case aS => exact (below_size (by repeat (first | exact HB.out | apply below_alloc | apply pw_below_drewN | apply below_drew1)))); (case aL => have := HL.out; omega); intro v189 w16 ho hb hg hat; have HO1 := Aside0.mk ho; have HB1 := Aside0.mk hb; clear ho hb hg hat)
        go_roundw
        case rel =>
          refine ⟨k + 1, by omega, by go_num, ⟨?_⟩, HB1⟩
          rw [HX.out, List.filter_append]
          simp only [List.filter_cons, HPS.out, List.filter_nil, if_true]
          exact HO1.out
        case measure => simp [intOf]; omega
    · have : k = l0.length := by omega
      subst this
      go_wp2
      go_ret
      exact ⟨_, rfl, by have := HO.out; rwa [List.take_length] at this, HB.out⟩

end Go.Proofs.YtlapjnaaihpeeaaDoor.XPl
