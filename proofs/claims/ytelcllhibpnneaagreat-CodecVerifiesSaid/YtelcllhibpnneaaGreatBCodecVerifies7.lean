-- Joined by this work's own program (wip/tools/bundle.py) out of its texts: what this claim uses of them. Not trusted: Lean checks it.
import Derived.WalkSpells
import Derived.Deep.DeepMust
import Derived.RangeFuncNested
import Derived.RangeFuncBound
import Derived.RangeFuncCalls
import Derived.RangeFuncLeaves
import Derived.Laws.BitsAllLaws
import Derived.Maps.OwnSet
import Derived.Maps.Views
import Derived.RangeFuncOwn
import Derived.Test.YtelcllhibpnneaaGreatBCodecVerifies6
section
namespace Go.Proofs.YtelcllhibpnneaaGreat.XCo
open Go.RowKit Go.Proofs.YtelcllhibpnneaaGreatW.PrintWords Go.Proofs.YtelcllhibpnneaaGreatW.PrintLast Go.Proofs.YtelcllhibpnneaaGreatW.PrintMore
attribute [local go_sem] aGz aHz aMz aNz aCz aDz aIz aJz
set_option linter.unusedVariables false
set_option linter.unusedSimpArgs false
def bmz.l0 : Nat → Int → List Int → Int → Int → Option (List Int)
 | 0, _, _, _, _ => none
 | k + 1, x0, x5, x10, x11 => if x11 < x10 then (if 0 ≤ x11 then (if x11 < (x5.length : Int) then (bmz.l0 k x0 (x5.set (x11 : Int).toNat (wrap64 (x0 + x11))) x10 (wrap64 (x11 + 1))) else (none)) else (none)) else (some x5)
def bmz.f (k : Nat) (a0 : Int) (a1 : Int) : Option (List Int) := if 0 ≤ a1 then (if (a1 : Int).toNat ≤ 35184372088832 then ((some (List.replicate (a1 : Int).toNat 0 : List Int)).bind fun y747 => (bmz.l0 k a0 y747 (y747.length : Int) 0)) else (none)) else (none)
set_option maxHeartbeats 8000000 in
set_option maxRecDepth 100000 in
theorem bmz.calls (k : Nat) (a0 : Int) (a1 : Int) (r : List Int) (w : World) (h : bmz.f k a0 a1 = some r) :
  Calls Tryz.prog 108 #[.int .i64 a0, .int .i64 a1] w fun e w' => ∃ v0_ : Value, e = .returned (v0_) ∧ Kd.R (Kd.int .i64) 3 w' w.heap.size (fun _ => True) v0_ r ∧ Below w.heap.size w w' := by
 have HB := Aside0.mk (Below.refl w.heap.size w)
 have H := h
 clear h
 unfold bmz.f at H
 by_cases c3 : 0 ≤ a1
 rotate_left
 ·rw [if_neg c3] at H
  exact absurd H (by simp)
 rw [if_pos c3] at H
 have c3b0 := eq_true c3
 have c3b1 := decide_eq_true c3
 clear c3
 by_cases c4 : (a1 : Int).toNat ≤ 35184372088832
 rotate_left
 ·rw [if_neg c4] at H
  exact absurd H (by simp)
 rw [if_pos c4] at H
 have c4b0 := eq_true c4
 have c4b1 := decide_eq_true c4
 clear c4
 obtain ⟨y747, hy747⟩ : ∃ y_ : List Int, y_ = (List.replicate (a1 : Int).toNat 0) := ⟨_, rfl⟩
 first | rw [Option.bind_some, ← hy747] at H | rw [← hy747] at H
 (try dsimp only at H)
 have Ny747 := Aside0.mk hy747
 clear hy747
 have H' := Aside0.mk H
 clear H
 go_enter Tryz.func108, Tryz.ntmps108
 go_wp2_with (first | ((with_reducible refine ayz (N := 8) rfl ?_); refine Kd.R_make (Kd.int .i64) _ 3 rfl (N := 8) rfl 66 _ _ rfl a1 rfl rfl Tryz.underlying66 (.int .i64 0) 8 info3 rfl (by decide) (by omega) 0 (ok := fun _ => True) (okp := fun _ => True) rfl (fun _ hk => hk) trivial (of_decide_eq_true as_) (Nat.le_trans (Nat.mul_le_mul_right _ (of_decide_eq_true as_ : a1.toNat ≤ 35184372088832)) (by omega)) (Below.refl _ _) (Nat.le_refl _) ?_; intro v748 w5 ho6 hb hg_ hnew_; clear hg_ hnew_; (first | rw [← Ny747.out] at ho6 | (simp only [Int.reduceToNat] at ho6; rw [← Ny747.out] at ho6)); have n_ := And.intro (Aside0.mk (Kd.bkz ho6 (aQz bl_))) (hs_ HB hb); clear HB; obtain ⟨HO749, HB⟩ := n_; clear hb ho6; obtain ⟨Ao7, co7, eo7⟩ := Kd.baz HO749.out; subst eo7))
 go_loopg [11] k (fun kq v11 w' => ∃ (x5_1 : List Int) (x11_1 : Int), v11 = .int .i64 x11_1 ∧ Aside0 (bmz.l0 kq a0 x5_1 (y747.length : Int) x11_1 = some r) ∧ Aside0 (kq ≤ k) ∧ Aside0 (Kd.R (Kd.int .i64) 3 w' w.heap.size (fun _ => True) (.slice Ao7 y747.length co7) x5_1) ∧ Aside0 (Below w.heap.size w w'))
 case atStart => exact ⟨(y747), (0), sd_, H', ⟨Nat.le_refl _⟩, ⟨xd_ HO749.out⟩, ⟨bl_⟩⟩
 clear H'
 clear c3b0 c3b1 c4b0 c4b1
 obtain ⟨x5_1, x11_1, rfl, HA, HK1, HO_5, HB⟩ := hrel
 have hl5_1 := (Kd.aRz HO_5.out).1
 rw [hl5_1] at HO_5
 (try simp only [hl5_1])
 rcases gk with _ | k1
 ·exact absurd HA.out (by simp [bmz.l0])
 have H := HA.out
 clear HA
 simp only [bmz.l0] at H
 by_cases c8 : x11_1 < (y747.length : Int)
 rotate_left
 ·rw [if_neg c8] at H
  have c8b0 := decide_eq_false c8
  (first | (rw [hl5_1] at c8b0) | skip)
  clear c8
  obtain rfl := Option.some.inj H
  go_wp2
  go_ret
  exact ⟨_, er_, xd_ HO_5.out, bl_⟩
 rw [if_pos c8] at H
 have c8b0 := decide_eq_true c8
 clear c8
 by_cases c9 : 0 ≤ x11_1
 rotate_left
 ·rw [if_neg c9] at H
  exact absurd H (by simp)
 rw [if_pos c9] at H
 have c9b0 := decide_eq_true c9
 clear c9
 by_cases c10 : x11_1 < (x5_1.length : Int)
 rotate_left
 ·rw [if_neg c10] at H
  exact absurd H (by simp)
 rw [if_pos c10] at H
 have c10b0 := decide_eq_true c10
 clear c10
 obtain ⟨y750, hy750⟩ : ∃ y_ : List Int, y_ = (x5_1.set (x11_1 : Int).toNat (wrap64 (a0 + x11_1))) := ⟨_, rfl⟩
 first | rw [Option.bind_some, ← hy750] at H | rw [← hy750] at H
 (try dsimp only at H)
 have Ny750 := Aside0.mk hy750
 clear hy750
 have H' := Aside0.mk H
 clear H
 have p11 : 0 ≤ (x11_1 : Int) := of_decide_eq_true as_
 have q11 : (x11_1 : Int) < ((x5_1.length : Int) : Int) := of_decide_eq_true as_
 obtain ⟨go11, co11, eo11, gb11, gl11, cl11, HG11⟩ := Kd.b7z HO_5.out (by omega)
 (first | cases eo11 | (injection eo11 with ea_ en_ ec_; (first | subst ea_ | (injection ea_ with ea_; subst ea_)); subst ec_; clear en_))
 have GB11 := Aside0.mk gb11
 have GG11 := Aside0.mk HG11
 clear gb11 gl11 HG11
 obtain ⟨hx11_0, hf11_0⟩ := Kd.R_celln 0 HO_5.out (x11_1 : Int) p11 q11
 replace p11 := eq_true p11
 replace q11 := eq_true q11
 have HP12 := Kd.R_putg HO_5.out (x11_1 : Int) (wrap64 (a0 + x11_1))
 go_wp2_with (first | ((with_reducible refine blz (t := 3) (p := 19) rfl ?_); refine czz (t := 3) (p := 19) (v := ?vo_w13) (w1 := (wr.setCell ⟨go11, (x11_1 : Int).toNat, none⟩ (.int .i64 (wrap64 (a0 + x11_1))))) ?hg ?ho ?hn ?hr ?_; (case ho => rfl); (case hg => rfl); (case hn => rfl); (case hr => first | (go_simp; done) | (go_simp; rfl)); intro w13 hw; have hg : wr.grownBy w13 (some go11) := (by rw [hw]; exact HP12.2); have hp_ : Kd.R (Kd.int .i64) 3 w13 w.heap.size (fun _ => True) (.slice (some ⟨go11, 0, none⟩) x5_1.length co7) y750 := (by rw [hw, Ny750.out]; exact HP12.1); clear HP12; have n_ := And.intro (Aside0.mk (hp_)) (Aside0.mk ((by rw [hw]; exact bEz (HB.out) GB11.out : Below w.heap.size w w13))); clear HO_5 HB; obtain ⟨HO_5, HB⟩ := n_; clear hg hw hp_))
 (try simp only [← hl5_1])
 go_roundg k1
 case measure => have := HK1.out; omega
 case rel => exact ⟨(y750), (wrap64 (x11_1 + 1)), sd_, H', ⟨by have := HK1.out; omega⟩, ⟨by (try simp only [hl5_1]); (with_reducible repeat (first | apply Kd.crz | apply Kd.bQz | apply Kd.b1z)); exact HO_5.out⟩, ⟨bl_⟩⟩
def a4z.f (a0 : Int) : Option (Bool) := if a0 ≥ 1 then (some (decide (a0 ≤ 20))) else (some false)
set_option maxHeartbeats 8000000 in
set_option maxRecDepth 100000 in
theorem a4z.calls (a0 : Int) (r : Bool) (w : World) (h : a4z.f a0 = some r) :
  Calls Tryz.prog 129 #[.int .i64 a0] w fun e w' => e = .returned (.bool r) ∧ Drawn0 w w' := by
 have H := h
 clear h
 unfold a4z.f at H
 by_cases c2 : a0 ≥ 1
 ·rw [if_pos c2] at H
  have c2b0 : decide (1 ≤ a0) = true := decide_eq_true c2
  clear c2
  obtain rfl := Option.some.inj H
  go_enter Tryz.func129, Tryz.ntmps129
  go_wp2
  go_ret
  exact ⟨sd_, dn_⟩
 ·rw [if_neg c2] at H
  have c2b0 : decide (1 ≤ a0) = false := decide_eq_false c2
  clear c2
  obtain rfl := Option.some.inj H
  go_enter Tryz.func129, Tryz.ntmps129
  go_wp2
  go_ret
  exact ⟨sd_, dn_⟩
def a1z.l0 : Nat → Int → List (List Int) → Int → Int → Option ((List (List Int)))
 | 0, _, _, _, _ => none
 | k + 1, x0, x3, x9, x10 => if x10 < x9 then (if 0 ≤ x0 then (if (x0 : Int).toNat ≤ 35184372088832 then ((some (List.replicate (x0 : Int).toNat 0 : List Int)).bind fun y752 => (if 0 ≤ x10 then (if x10 < (y752.length : Int) then (if x3.length < 5864062014805 then (a1z.l0 k x0 (x3 ++ [(y752.set (x10 : Int).toNat 1)]) x9 (wrap64 (x10 + 1))) else (none)) else (none)) else (none))) else (none)) else (none)) else (some x3)
def a1z.f (k : Nat) (a0 : Int) : Option ((List (List Int))) := (a4z.f a0).bind fun t751 => (if t751 = true then (a1z.l0 k a0 ([] : List (List Int)) a0 0) else (some ([] : List (List Int))))
set_option maxHeartbeats 8000000 in
set_option maxRecDepth 100000 in
theorem a1z.calls (k : Nat) (a0 : Int) (r : List (List Int)) (w : World) (h : a1z.f k a0 = some r) :
  Calls Tryz.prog 87 #[.int .i64 a0] w fun e w' => ∃ v0_ : Value, e = .returned (v0_) ∧ Kd.S (Kd.slice 3 (Kd.int .i64)) 66 w' w.heap.size (fun _ => True) v0_ r ∧ Below w.heap.size w w' := by
 have HB := Aside0.mk (Below.refl w.heap.size w)
 have H := h
 clear h
 unfold a1z.f at H
 obtain ⟨t751, A2, H⟩ := ob_ H
 (try dsimp only at H)
 by_cases c3 : t751 = true
 rotate_left
 ·replace c3 := Bool.eq_false_iff.mpr c3
  subst c3
  rw [if_neg (show ¬ (false = true) by decide)] at H
  obtain rfl := Option.some.inj H
  go_enter Tryz.func87, Tryz.ntmps87
  go_wp2_with (first | ((with_reducible refine ajz (f := 129) rfl ?_); refine gl_ (some 7) Tryz.func129 #[.int .i64 a0] ?_; (with_reducible refine (a4z.calls a0 false _ A2.out).mono ?_); rintro e w' ⟨rfl, ⟨nd, rfl⟩⟩; refine ⟨_, rfl, ?_⟩))
  go_ret
  exact ⟨_, er_, nl_, bl_⟩
 subst c3
 rw [if_pos rfl] at H
 have H' := Aside0.mk H
 clear H
 go_enter Tryz.func87, Tryz.ntmps87
 go_wp2_with (first | ((with_reducible refine ajz (f := 129) rfl ?_); refine gl_ (some 7) Tryz.func129 #[.int .i64 a0] ?_; (with_reducible refine (a4z.calls a0 true _ A2.out).mono ?_); rintro e w' ⟨rfl, ⟨nd, rfl⟩⟩; refine ⟨_, rfl, ?_⟩))
 go_loopg [3, 10] k (fun kq v3 v10 w' => ∃ (x3_1 : List (List Int)) (x10_1 : Int), v10 = .int .i64 x10_1 ∧ Aside0 (a1z.l0 kq a0 x3_1 a0 x10_1 = some r) ∧ Aside0 (kq ≤ k) ∧ Aside0 (Kd.S (Kd.slice 3 (Kd.int .i64)) 66 w' w.heap.size (fun _ => True) v3 x3_1) ∧ Aside0 (Below w.heap.size w w'))
 case atStart => exact ⟨(([] : List (List Int))), (0), sd_, H', ⟨Nat.le_refl _⟩, ⟨nl_⟩, ⟨bl_⟩⟩
 clear H'
 obtain ⟨x3_1, x10_1, rfl, HA, HK1, HO_3, HB⟩ := hrel
 rcases gk with _ | k1
 ·exact absurd HA.out (by simp [a1z.l0])
 have H := HA.out
 clear HA
 simp only [a1z.l0] at H
 by_cases c4 : x10_1 < a0
 rotate_left
 ·rw [if_neg c4] at H
  have c4b0 := decide_eq_false c4
  clear c4
  obtain rfl := Option.some.inj H
  go_wp2
  go_ret
  exact ⟨_, er_, xd_ HO_3.out, bl_⟩
 rw [if_pos c4] at H
 have c4b0 := decide_eq_true c4
 clear c4
 by_cases c5 : 0 ≤ a0
 rotate_left
 ·rw [if_neg c5] at H
  exact absurd H (by simp)
 rw [if_pos c5] at H
 have c5b0 := eq_true c5
 have c5b1 := decide_eq_true c5
 clear c5
 by_cases c6 : (a0 : Int).toNat ≤ 35184372088832
 rotate_left
 ·rw [if_neg c6] at H
  exact absurd H (by simp)
 rw [if_pos c6] at H
 have c6b0 := eq_true c6
 have c6b1 := decide_eq_true c6
 clear c6
 obtain ⟨y752, hy752⟩ : ∃ y_ : List Int, y_ = (List.replicate (a0 : Int).toNat 0) := ⟨_, rfl⟩
 first | rw [Option.bind_some, ← hy752] at H | rw [← hy752] at H
 (try dsimp only at H)
 have Ny752 := Aside0.mk hy752
 clear hy752
 by_cases c7 : 0 ≤ x10_1
 rotate_left
 ·rw [if_neg c7] at H
  exact absurd H (by simp)
 rw [if_pos c7] at H
 have c7b0 := decide_eq_true c7
 clear c7
 by_cases c8 : x10_1 < (y752.length : Int)
 rotate_left
 ·rw [if_neg c8] at H
  exact absurd H (by simp)
 rw [if_pos c8] at H
 have c8b0 := decide_eq_true c8
 clear c8
 obtain ⟨y755, hy755⟩ : ∃ y_ : List Int, y_ = (y752.set (x10_1 : Int).toNat 1) := ⟨_, rfl⟩
 first | rw [Option.bind_some, ← hy755] at H | rw [← hy755] at H
 (try dsimp only at H)
 have Ny755 := Aside0.mk hy755
 clear hy755
 by_cases c10 : x3_1.length < 5864062014805
 rotate_left
 ·rw [if_neg c10] at H
  exact absurd H (by simp)
 rw [if_pos c10] at H
 have LMc10 := Aside0.mk c10
 clear c10
 obtain ⟨y756, hy756⟩ : ∃ y_ : List (List Int), y_ = (x3_1 ++ [y755]) := ⟨_, rfl⟩
 first | rw [Option.bind_some, ← hy756] at H | rw [← hy756] at H
 (try dsimp only at H)
 have Ny756 := Aside0.mk hy756
 clear hy756
 have H' := Aside0.mk H
 clear H
 go_wp2_with (first | ((with_reducible refine ayz (N := 14) rfl ?_); refine Kd.R_make (Kd.int .i64) _ 3 rfl (N := 14) rfl 66 _ _ rfl a0 rfl rfl Tryz.underlying66 (.int .i64 0) 8 info3 rfl (by decide) (by omega) 0 (ok := fun _ => True) (okp := fun _ => True) rfl (fun _ hk => hk) trivial (of_decide_eq_true as_) (Nat.le_trans (Nat.mul_le_mul_right _ (of_decide_eq_true as_ : a0.toNat ≤ 35184372088832)) (by omega)) (Below.refl _ _) (Nat.le_refl _) ?_; intro v753 w11 ho12 hb hg_ hnew_; clear hg_ hnew_; (first | rw [← Ny752.out] at ho12 | (simp only [Int.reduceToNat] at ho12; rw [← Ny752.out] at ho12)); have n_ := And.intro (Aside0.mk (Kd.S_elder' (xd_ HO_3.out) (Kd.bvz ho12) hb)) (And.intro (Aside0.mk (Kd.bkz ho12 (aQz bl_))) (hs_ HB hb)); clear HO_3 HB; obtain ⟨HO_3, HO754, HB⟩ := n_; clear hb ho12; have p9 : 0 ≤ (x10_1 : Int) := of_decide_eq_true as_; have q9 : (x10_1 : Int) < ((y752.length : Int) : Int) := of_decide_eq_true as_; obtain ⟨go9, co9, eo9, gb9, gl9, cl9, HG9⟩ := Kd.b7z HO754.out (by omega); (first | cases eo9 | (injection eo9 with ea_ en_ ec_; (first | subst ea_ | (injection ea_ with ea_; subst ea_)); subst ec_; clear en_)); have GB9 := Aside0.mk gb9; have GG9 := Aside0.mk HG9; clear gb9 gl9 HG9; obtain ⟨hx9_0, hf9_0⟩ := Kd.R_celln 0 HO754.out (x10_1 : Int) p9 q9; replace p9 := eq_true p9; replace q9 := eq_true q9; obtain ⟨hy13_, hz13_⟩ := Kd.R_celln 0 HO754.out (x10_1 : Int) (of_decide_eq_true as_) (of_decide_eq_true as_); have HP13 := Kd.R_putg HO754.out (x10_1 : Int) 1) | ((with_reducible refine blz (t := 3) (p := 17) rfl ?_); refine czz (t := 3) (p := 17) (v := ?vo_w14) (w1 := (w11.setCell ⟨go9, (x10_1 : Int).toNat, none⟩ (.int .i64 1))) ?hg ?ho ?hn ?hr ?_; (case ho => rfl); (case hg => rfl); (case hn => rfl); (case hr => first | (go_simp; done) | (go_simp; rfl)); intro w14 hw; have hg : w11.grownBy w14 (some go9) := (by rw [hw]; exact HP13.2); have hp_ : Kd.R (Kd.int .i64) 3 w14 w.heap.size (fun _ => True) (.slice (some ⟨go9, 0, none⟩) y752.length co9) y755 := (by rw [hw, Ny755.out]; exact HP13.1); clear HP13; have n_ := And.intro (Aside0.mk (Kd.S_after (v := (.slice (some ⟨go9, 0, none⟩) y752.length co9)) (v1 := (.slice (some ⟨go9, 0, none⟩) y752.length co9)) (ok := (fun _ => True)) (xd_ HO_3.out) hg (.inl rfl))) (And.intro (Aside0.mk (hp_)) (Aside0.mk ((by rw [hw]; exact bEz (HB.out) GB9.out : Below w.heap.size w w14)))); clear HO_3 HO754 HB; obtain ⟨HO_3, HO754, HB⟩ := n_; clear hg hw hp_) | ((with_reducible refine axz (b := .append) (xs := #[.tmp 18, .tmp 20]) rfl ?_); at_builtin; refine Kd.bHz (Kd.slice 3 (Kd.int .i64)) (w0 := w) w.heap.size rfl (.tmp 18) (.tmp 20) 61 66 (.slice none 0 0) 24 rfl Tryz.underlying61 info66 rfl (by decide) (by omega) u3 x3_1 y755 [.slice (some ⟨go9, 0, none⟩) y752.length co9] (fun _ => True) (fun k_ => some k_ = (.slice (some ⟨go9, 0, none⟩) y752.length co9 : Value).ownBlock) rfl rfl ?aP (fun k_ hk_ => ((Kd.aSz (ok' := fun k_ => ((fun _ => True)) k_ ∧ some k_ ≠ (u3 : Value).ownBlock) (Kd.dzz (HO754.out) (Kd.cWz HO_3.out) (by decide)) (fun k_ hk => ⟨trivial, hk.2⟩))).1 k_ hk_.symm) ?aF ?aO ?aB ?aS ?aL ?_; (case aP => exact Kd.M_row (Kd.aSz (Kd.cTz rfl (Kd.aSz (ok' := fun k_ => ((fun _ => True)) k_ ∧ some k_ ≠ (u3 : Value).ownBlock) (Kd.dzz (HO754.out) (Kd.cWz HO_3.out) (by decide)) (fun k_ hk => ⟨trivial, hk.2⟩))) (fun _ h_ => h_))); (case aB => exact bl_); (case aF => exact (fun _ _ => trivial)); (case aO => exact (sm_ HO_3)); (case aS => exact (aQz bl_)); (case aL => have := LMc10.out; omega); intro v757 w15 ho hb hg hat; rw [← Ny756.out] at ho; have n_ := And.intro (Aside0.mk (hb)) (Aside0.mk (ho)); clear HB HO_3 HO754; obtain ⟨HB, HO758⟩ := n_; clear ho hb hg hat))
 go_roundg k1
 case measure => have := HK1.out; omega
 case rel => exact ⟨(y756), (wrap64 (x10_1 + 1)), sd_, H', ⟨by have := HK1.out; omega⟩, ⟨xd_ HO758.out⟩, ⟨bl_⟩⟩
def idxF {α : Type} (p : α → Bool) : List α → Int
 | [] => -1
 | x :: l => if p x then 0 else if idxF p l < 0 then -1 else idxF p l + 1
theorem idxF_ge {α : Type} (p : α → Bool) : ∀ l : List α, -1 ≤ idxF p l ∧ idxF p l < l.length ∧ (idxF p l < 0 ↔ l.any p = false)
 | [] => by simp [idxF]
 | x :: l => by
  have h := idxF_ge p l
  unfold idxF
  cases hx : p x with
  | true => simp [hx]
  | false =>
   simp only [Bool.false_eq_true, if_false, List.any_cons, hx, Bool.false_or, List.length_cons]
   refine ⟨?_, ?_, ?_⟩
   ·split <;> omega
   ·split <;> omega
   ·rw [← h.2.2]; split <;> omega
theorem idxF_any {α : Type} (p : α → Bool) (l : List α) : decide (0 ≤ idxF p l) = l.any p := by
  have h := idxF_ge p l
  cases ha : l.any p with
  | true => have : ¬ idxF p l < 0 := fun hh => by rw [h.2.2.1 hh] at ha; cases ha
            exact decide_eq_true (by omega)
  | false => exact decide_eq_false (by have := h.2.2.2 ha; omega)
theorem idxF_at {α : Type} (p : α → Bool) : ∀ (l : List α) (k : Nat) (x : α), l[k]? = some x → (l.take k).any p = false → p x = true → idxF p l = k
 | [], k, x, h, _, _ => by simp at h
 | y :: l, 0, x, h, _, hp => by
  obtain rfl : y = x := by simpa using h
  simp [idxF, hp]
 | y :: l, k + 1, x, h, ha, hp => by
  simp only [List.take_succ_cons, List.any_cons, Bool.or_eq_false_iff] at ha
  have := idxF_at p l k x (by simpa using h) ha.2 hp
  unfold idxF
  rw [ha.1, this]
  simp only [Bool.false_eq_true, if_false]
  rw [if_neg (by omega)]
  omega
theorem dkz {α : Type} (p : α → Bool) (l : List α) (h : l.any p = false) : idxF p l = -1 := by
 have h1 := idxF_ge p l
 have := h1.2.2.2 h
 omega
theorem b9z {α : Type} (p : α → Bool) (l : List α) (k : Nat) (x : α) (h : l[k]? = some x) : (l.take (k + 1)).any p = ((l.take k).any p || p x) := by
 rw [List.take_add_one, h]; simp
theorem a9z {α : Type} {d : Kd α} {e : Nat} {W : World} {A : Option Addr} {rows : List (List α)} (h : Kd.C (Kd.slice e d) W A rows.length rows) (k : Nat) (x : List α) (hx : rows[k]? = some x) :
  ∃ ad A' c', A = some ad ∧ W.cell? (ad.add k) = some (.slice A' x.length c') ∧ x.length ≤ c' ∧ Kd.C d W A' x.length x := by
 have hlt := (List.getElem?_eq_some_iff.1 hx).1
 obtain ⟨ad, c, hA, hl, hK, hc⟩ := Kd.C_get h ([] : List α) (k : Int) (by omega) (by omega)
 rw [Int.toNat_natCast, List.getD_eq_getElem?_getD, hx] at hK
 obtain ⟨A', c', rfl, hle, hC⟩ := hK
 refine ⟨ad, A', c', hA, ?_, hle, hC⟩
 have := hc 0 _ rfl
 rwa [show (k : Int).toNat * (Kd.slice e d).sz + 0 = k from by show (k : Int).toNat * 1 + 0 = k; omega] at this
theorem bBz {k : IntKind} {W : World} {A : Option Addr} {l : List Int} (h : Kd.C (Kd.int k) W A l.length l) (j : Nat) (x : Int) (hx : l[j]? = some x) : ∃ ad, A = some ad ∧ W.cell? (ad.add j) = some (.int k x) := by
 have hlt := (List.getElem?_eq_some_iff.1 hx).1
 obtain ⟨ad, c, hA, hl, hK, hc⟩ := Kd.C_get h 0 (j : Int) (by omega) (by omega)
 rw [Int.toNat_natCast, List.getD_eq_getElem?_getD, hx] at hK
 refine ⟨ad, hA, ?_⟩
 have hK' : c = [.int k x] := hK
 subst hK'
 have := hc 0 _ rfl
 rwa [show (j : Int).toNat * (Kd.int k).sz + 0 = j from by show (j : Int).toNat * 1 + 0 = j; omega] at this
set_option maxRecDepth 100000 in
set_option maxHeartbeats 1600000 in
theorem idx_May11.calls (p : Int → Bool) (q0 : Value) (A : Option Addr) (c : Nat) (l : List Int) (W : World) (hr : Kd.C (Kd.int .i64) W A l.length l) (hl : l.length ≤ 1000000)
  (hp : ∀ (m : Nat) (x : Int), x ∈ l → Calls Tryz.prog 162 #[.int .i64 x, q0] (W.drewN m) fun e w' => e = .returned (.bool (p x)) ∧ Drawn0 (W.drewN m) w') :
  Calls Tryz.prog 178 #[.slice A l.length c, .func (.func 162) #[] #[q0]] W fun e w' => e = .returned (.int .i64 (idxF p l)) ∧ Drawn0 W w' := by
 have HR := Aside0.mk hr
 have HP := Aside0.mk hp
 clear hr hp
 go_enter Tryz.func178, Tryz.ntmps178
 go_wp2
 go_loopw [8] (fun i wr => ∃ k m : Nat, k ≤ l.length ∧ i = .int .i64 k ∧ wr = W.drewN m ∧ Aside0 ((l.take k).any p = false)) (fun i _ => l.length - (intOf i).toNat)
 case atStart => exact ⟨0, 0, Nat.zero_le _, rfl, rfl, ⟨rfl⟩⟩
 obtain ⟨k, m, hk, rfl, rfl, HA⟩ := hrel
 by_cases hlt : k < l.length
 ·obtain ⟨x, hx⟩ : ∃ x, l[k]? = some x := ⟨_, List.getElem?_eq_getElem hlt⟩
  obtain ⟨ad, rfl, hcell⟩ := bBz HR.out k x hx
  have HX := Aside0.mk hx
  clear hx
  cases hpx : p x with
  | true =>
   have HI := Aside0.mk (idxF_at p l k x HX.out HA.out hpx)
   have HPX := Aside0.mk hpx
   clear hpx
   go_wp2_with (first | (go_at_call 162; refine (HP.out _ x (List.mem_of_getElem? HX.out)).mono ?_; rintro e w9 ⟨rfl, m9, rfl⟩; rw [HPX.out]))
   go_ret
   refine ⟨?_, dn_⟩
   rw [HI.out]; rfl
  | false =>
   have HA1 := Aside0.mk (show (l.take (k + 1)).any p = false by rw [b9z p l k x HX.out, HA.out, hpx]; rfl)
   have HPX := Aside0.mk hpx
   clear hpx
   go_wp2_with (first | (go_at_call 162; refine (HP.out _ x (List.mem_of_getElem? HX.out)).mono ?_; rintro e w9 ⟨rfl, m9, rfl⟩; rw [HPX.out]))
   go_roundw
   case rel => exact ⟨k + 1, m + m9, by omega, by go_num, by simp [World.drewN_drewN], HA1⟩
   case measure => simp [intOf]; omega
 ·obtain rfl : k = l.length := by omega
  have HI := Aside0.mk (dkz p l (by have := HA.out; rwa [List.take_length] at this))
  go_wp2
  go_ret
  refine ⟨?_, dn_⟩
  rw [HI.out]; rfl
set_option maxRecDepth 100000 in
set_option maxHeartbeats 1600000 in
theorem con_May11.calls (p : Int → Bool) (q0 : Value) (A : Option Addr) (c : Nat) (l : List Int) (W : World) (hr : Kd.C (Kd.int .i64) W A l.length l) (hl : l.length ≤ 1000000)
  (hp : ∀ (m : Nat) (x : Int), x ∈ l → Calls Tryz.prog 162 #[.int .i64 x, q0] (W.drewN m) fun e w' => e = .returned (.bool (p x)) ∧ Drawn0 (W.drewN m) w') :
  Calls Tryz.prog 161 #[.slice A l.length c, .func (.func 162) #[] #[q0]] W fun e w' => e = .returned (.bool (l.any p)) ∧ Drawn0 W w' := by
 have HC := Aside0.mk (idx_May11.calls p q0 A c l W hr hl hp)
 have HA := Aside0.mk (idxF_any p l)
 clear hr hp
 obtain ⟨z, hz⟩ : ∃ z, idxF p l = z := ⟨_, rfl⟩
 rw [hz] at HC HA
 rw [← HA.out]
 clear hz HA
 go_enter Tryz.func161, Tryz.ntmps161
 go_wp2_with (first | (go_at_call 178; refine HC.out.mono ?_; rintro e w9 ⟨rfl, m9, rfl⟩))
 go_ret
 exact ⟨rfl, dn_⟩
set_option maxRecDepth 100000 in
set_option maxHeartbeats 1600000 in
theorem idx_May1.calls (p : List Int → Bool) (q0 q1 : Value) (A : Option Addr) (c : Nat) (l : List (List Int)) (W : World) (hr : Kd.C (Kd.slice 3 (Kd.int .i64)) W A l.length l) (hl : l.length ≤ 1000000)
  (hp : ∀ (m : Nat) (x : List Int) (A' : Option Addr) (c' : Nat), x ∈ l → x.length ≤ c' → Kd.C (Kd.int .i64) W A' x.length x → Calls Tryz.prog 160 #[.slice A' x.length c', q0, q1] (W.drewN m) fun e w' => e = .returned (.bool (p x)) ∧ Drawn0 (W.drewN m) w') :
  Calls Tryz.prog 164 #[.slice A l.length c, .func (.func 160) #[] #[q0, q1]] W fun e w' => e = .returned (.int .i64 (idxF p l)) ∧ Drawn0 W w' := by
 have HR := Aside0.mk hr
 have HP := Aside0.mk hp
 clear hr hp
 go_enter Tryz.func164, Tryz.ntmps164
 go_wp2
 go_loopw [8] (fun i wr => ∃ k m : Nat, k ≤ l.length ∧ i = .int .i64 k ∧ wr = W.drewN m ∧ Aside0 ((l.take k).any p = false)) (fun i _ => l.length - (intOf i).toNat)
 case atStart => exact ⟨0, 0, Nat.zero_le _, rfl, rfl, ⟨rfl⟩⟩
 obtain ⟨k, m, hk, rfl, rfl, HA⟩ := hrel
 by_cases hlt : k < l.length
 ·obtain ⟨x, hx⟩ : ∃ x, l[k]? = some x := ⟨_, List.getElem?_eq_getElem hlt⟩
  obtain ⟨ad, A', c', rfl, hcell, hle, hC⟩ := a9z HR.out k x hx
  have HC := Aside0.mk hC
  have HLE := Aside0.mk hle
  clear hC hle
  have HX := Aside0.mk hx
  clear hx
  cases hpx : p x with
  | true =>
   have HI := Aside0.mk (idxF_at p l k x HX.out HA.out hpx)
   have HPX := Aside0.mk hpx
   clear hpx
   go_wp2_with (first | (go_at_call 160; refine (HP.out _ x A' c' (List.mem_of_getElem? HX.out) HLE.out HC.out).mono ?_; rintro e w9 ⟨rfl, m9, rfl⟩; rw [HPX.out]))
   go_ret
   refine ⟨?_, dn_⟩
   rw [HI.out]; rfl
  | false =>
   have HA1 := Aside0.mk (show (l.take (k + 1)).any p = false by rw [b9z p l k x HX.out, HA.out, hpx]; rfl)
   have HPX := Aside0.mk hpx
   clear hpx
   go_wp2_with (first | (go_at_call 160; refine (HP.out _ x A' c' (List.mem_of_getElem? HX.out) HLE.out HC.out).mono ?_; rintro e w9 ⟨rfl, m9, rfl⟩; rw [HPX.out]))
   go_roundw
   case rel => exact ⟨k + 1, m + m9, by omega, by go_num, by simp [World.drewN_drewN], HA1⟩
   case measure => simp [intOf]; omega
 ·obtain rfl : k = l.length := by omega
  have HI := Aside0.mk (dkz p l (by have := HA.out; rwa [List.take_length] at this))
  go_wp2
  go_ret
  refine ⟨?_, dn_⟩
  rw [HI.out]; rfl
set_option maxRecDepth 100000 in
set_option maxHeartbeats 1600000 in
theorem con_May1.calls (p : List Int → Bool) (q0 q1 : Value) (A : Option Addr) (c : Nat) (l : List (List Int)) (W : World) (hr : Kd.C (Kd.slice 3 (Kd.int .i64)) W A l.length l) (hl : l.length ≤ 1000000)
  (hp : ∀ (m : Nat) (x : List Int) (A' : Option Addr) (c' : Nat), x ∈ l → x.length ≤ c' → Kd.C (Kd.int .i64) W A' x.length x → Calls Tryz.prog 160 #[.slice A' x.length c', q0, q1] (W.drewN m) fun e w' => e = .returned (.bool (p x)) ∧ Drawn0 (W.drewN m) w') :
  Calls Tryz.prog 159 #[.slice A l.length c, .func (.func 160) #[] #[q0, q1]] W fun e w' => e = .returned (.bool (l.any p)) ∧ Drawn0 W w' := by
 have HC := Aside0.mk (idx_May1.calls p q0 q1 A c l W hr hl hp)
 have HA := Aside0.mk (idxF_any p l)
 clear hr hp
 obtain ⟨z, hz⟩ : ∃ z, idxF p l = z := ⟨_, rfl⟩
 rw [hz] at HC HA
 rw [← HA.out]
 clear hz HA
 go_enter Tryz.func159, Tryz.ntmps159
 go_wp2_with (first | (go_at_call 164; refine HC.out.mono ?_; rintro e w9 ⟨rfl, m9, rfl⟩))
 go_ret
 exact ⟨rfl, dn_⟩
set_option maxRecDepth 100000 in
set_option maxHeartbeats 1600000 in
theorem idx_reduce2.calls (p : List Int → Bool) (q0 : Value) (A : Option Addr) (c : Nat) (l : List (List Int)) (W : World) (hr : Kd.C (Kd.slice 3 (Kd.int .i64)) W A l.length l) (hl : l.length ≤ 1000000)
  (hp : ∀ (m : Nat) (x : List Int) (A' : Option Addr) (c' : Nat), x ∈ l → x.length ≤ c' → Kd.C (Kd.int .i64) W A' x.length x → Calls Tryz.prog 165 #[.slice A' x.length c', q0] (W.drewN m) fun e w' => e = .returned (.bool (p x)) ∧ Drawn0 (W.drewN m) w') :
  Calls Tryz.prog 164 #[.slice A l.length c, .func (.func 165) #[] #[q0]] W fun e w' => e = .returned (.int .i64 (idxF p l)) ∧ Drawn0 W w' := by
 have HR := Aside0.mk hr
 have HP := Aside0.mk hp
 clear hr hp
 go_enter Tryz.func164, Tryz.ntmps164
 go_wp2
 go_loopw [8] (fun i wr => ∃ k m : Nat, k ≤ l.length ∧ i = .int .i64 k ∧ wr = W.drewN m ∧ Aside0 ((l.take k).any p = false)) (fun i _ => l.length - (intOf i).toNat)
 case atStart => exact ⟨0, 0, Nat.zero_le _, rfl, rfl, ⟨rfl⟩⟩
 obtain ⟨k, m, hk, rfl, rfl, HA⟩ := hrel
 by_cases hlt : k < l.length
 ·obtain ⟨x, hx⟩ : ∃ x, l[k]? = some x := ⟨_, List.getElem?_eq_getElem hlt⟩
  obtain ⟨ad, A', c', rfl, hcell, hle, hC⟩ := a9z HR.out k x hx
  have HC := Aside0.mk hC
  have HLE := Aside0.mk hle
  clear hC hle
  have HX := Aside0.mk hx
  clear hx
  cases hpx : p x with
  | true =>
   have HI := Aside0.mk (idxF_at p l k x HX.out HA.out hpx)
   have HPX := Aside0.mk hpx
   clear hpx
   go_wp2_with (first | (go_at_call 165; refine (HP.out _ x A' c' (List.mem_of_getElem? HX.out) HLE.out HC.out).mono ?_; rintro e w9 ⟨rfl, m9, rfl⟩; rw [HPX.out]))
   go_ret
   refine ⟨?_, dn_⟩
   rw [HI.out]; rfl
  | false =>
   have HA1 := Aside0.mk (show (l.take (k + 1)).any p = false by rw [b9z p l k x HX.out, HA.out, hpx]; rfl)
   have HPX := Aside0.mk hpx
   clear hpx
   go_wp2_with (first | (go_at_call 165; refine (HP.out _ x A' c' (List.mem_of_getElem? HX.out) HLE.out HC.out).mono ?_; rintro e w9 ⟨rfl, m9, rfl⟩; rw [HPX.out]))
   go_roundw
   case rel => exact ⟨k + 1, m + m9, by omega, by go_num, by simp [World.drewN_drewN], HA1⟩
   case measure => simp [intOf]; omega
 ·obtain rfl : k = l.length := by omega
  have HI := Aside0.mk (dkz p l (by have := HA.out; rwa [List.take_length] at this))
  go_wp2
  go_ret
  refine ⟨?_, dn_⟩
  rw [HI.out]; rfl
set_option maxRecDepth 100000 in
set_option maxHeartbeats 1600000 in
theorem idx_Join1.calls (p : List Int → Bool) (q0 : Value) (A : Option Addr) (c : Nat) (l : List (List Int)) (W : World) (hr : Kd.C (Kd.slice 5 (Kd.int .u8)) W A l.length l) (hl : l.length ≤ 1000000)
  (hp : ∀ (m : Nat) (x : List Int) (A' : Option Addr) (c' : Nat), x ∈ l → x.length ≤ c' → Kd.C (Kd.int .u8) W A' x.length x → Calls Tryz.prog 64 #[.slice A' x.length c', q0] (W.drewN m) fun e w' => e = .returned (.bool (p x)) ∧ Drawn0 (W.drewN m) w') :
  Calls Tryz.prog 92 #[.slice A l.length c, .func (.func 64) #[] #[q0]] W fun e w' => e = .returned (.int .i64 (idxF p l)) ∧ Drawn0 W w' := by
 have HR := Aside0.mk hr
 have HP := Aside0.mk hp
 clear hr hp
 go_enter Tryz.func92, Tryz.ntmps92
 go_wp2
 go_loopw [8] (fun i wr => ∃ k m : Nat, k ≤ l.length ∧ i = .int .i64 k ∧ wr = W.drewN m ∧ Aside0 ((l.take k).any p = false)) (fun i _ => l.length - (intOf i).toNat)
 case atStart => exact ⟨0, 0, Nat.zero_le _, rfl, rfl, ⟨rfl⟩⟩
 obtain ⟨k, m, hk, rfl, rfl, HA⟩ := hrel
 by_cases hlt : k < l.length
 ·obtain ⟨x, hx⟩ : ∃ x, l[k]? = some x := ⟨_, List.getElem?_eq_getElem hlt⟩
  obtain ⟨ad, A', c', rfl, hcell, hle, hC⟩ := a9z HR.out k x hx
  have HC := Aside0.mk hC
  have HLE := Aside0.mk hle
  clear hC hle
  have HX := Aside0.mk hx
  clear hx
  cases hpx : p x with
  | true =>
   have HI := Aside0.mk (idxF_at p l k x HX.out HA.out hpx)
   have HPX := Aside0.mk hpx
   clear hpx
   go_wp2_with (first | (go_at_call 64; refine (HP.out _ x A' c' (List.mem_of_getElem? HX.out) HLE.out HC.out).mono ?_; rintro e w9 ⟨rfl, m9, rfl⟩; rw [HPX.out]))
   go_ret
   refine ⟨?_, dn_⟩
   rw [HI.out]; rfl
  | false =>
   have HA1 := Aside0.mk (show (l.take (k + 1)).any p = false by rw [b9z p l k x HX.out, HA.out, hpx]; rfl)
   have HPX := Aside0.mk hpx
   clear hpx
   go_wp2_with (first | (go_at_call 64; refine (HP.out _ x A' c' (List.mem_of_getElem? HX.out) HLE.out HC.out).mono ?_; rintro e w9 ⟨rfl, m9, rfl⟩; rw [HPX.out]))
   go_roundw
   case rel => exact ⟨k + 1, m + m9, by omega, by go_num, by simp [World.drewN_drewN], HA1⟩
   case measure => simp [intOf]; omega
 ·obtain rfl : k = l.length := by omega
  have HI := Aside0.mk (dkz p l (by have := HA.out; rwa [List.take_length] at this))
  go_wp2
  go_ret
  refine ⟨?_, dn_⟩
  rw [HI.out]; rfl
set_option maxRecDepth 100000 in
set_option maxHeartbeats 1600000 in
theorem con_Join1.calls (p : List Int → Bool) (q0 : Value) (A : Option Addr) (c : Nat) (l : List (List Int)) (W : World) (hr : Kd.C (Kd.slice 5 (Kd.int .u8)) W A l.length l) (hl : l.length ≤ 1000000)
  (hp : ∀ (m : Nat) (x : List Int) (A' : Option Addr) (c' : Nat), x ∈ l → x.length ≤ c' → Kd.C (Kd.int .u8) W A' x.length x → Calls Tryz.prog 64 #[.slice A' x.length c', q0] (W.drewN m) fun e w' => e = .returned (.bool (p x)) ∧ Drawn0 (W.drewN m) w') :
  Calls Tryz.prog 58 #[.slice A l.length c, .func (.func 64) #[] #[q0]] W fun e w' => e = .returned (.bool (l.any p)) ∧ Drawn0 W w' := by
 have HC := Aside0.mk (idx_Join1.calls p q0 A c l W hr hl hp)
 have HA := Aside0.mk (idxF_any p l)
 clear hr hp
 obtain ⟨z, hz⟩ : ∃ z, idxF p l = z := ⟨_, rfl⟩
 rw [hz] at HC HA
 rw [← HA.out]
 clear hz HA
 go_enter Tryz.func58, Tryz.ntmps58
 go_wp2_with (first | (go_at_call 92; refine HC.out.mono ?_; rintro e w9 ⟨rfl, m9, rfl⟩))
 go_ret
 exact ⟨rfl, dn_⟩
theorem bTz (ad : Addr) : ad.add 0 = ad := by unfold Addr.add; split <;> simp_all
structure MayOk (wb : Int) (rows : List (List Int)) (cols : Nat) : Prop where
 n1 : 1 ≤ rows.length
 n2 : rows.length ≤ 20
 c1 : 1 ≤ cols
 c2 : cols ≤ 20
 each : ∀ row, row ∈ rows → row.length = cols ∧ ∀ x, x ∈ row → 0 ≤ x ∧ x < fsize wb
set_option maxRecDepth 100000 in
set_option maxHeartbeats 1600000 in
theorem may11.calls (g fb : Nat) (S : Nat → Prop) (wb p x : Int) (W : World) (hw : wb = 8 ∨ wb = 16) (hF : Fd W g wb p S) (hb : W.cell? ⟨fb, 0, none⟩ = some (.pointer (some ⟨g, 0, none⟩))) (hx : 0 ≤ x ∧ x < fsize wb) :
  Calls Tryz.prog 162 #[.int .i64 x, .pointer (some ⟨fb, 0, none⟩)] W fun e w' => e = .returned (.bool false) ∧ Drawn0 W w' := by
 have HF := Aside0.mk hF
 have HW := Aside0.mk hw
 have h1 : decide (x < 0) = false := decide_eq_false (by omega)
 have h2 : decide (fsize wb ≤ x) = false := decide_eq_false (by omega)
 clear hF hw hx
 go_enter Tryz.func162, Tryz.ntmps162
 go_wp2_with (first | (go_at_call 140; refine (cXz.calls g wb p S _ HF.out HW.out).mono ?_; rintro e w9 ⟨rfl, m9, rfl⟩))
 go_ret
 exact ⟨rfl, dn_⟩
set_option maxRecDepth 100000 in
set_option maxHeartbeats 1600000 in
theorem may1.calls (g fb ab : Nat) (S : Nat → Prop) (wb p : Int) (A A0 A' : Option Addr) (n0 c0 c' : Nat) (cols : Nat) (rows : List (List Int)) (x : List Int) (W : World) (hw : wb = 8 ∨ wb = 16) (hM : MayOk wb rows cols) (hF : Fd W g wb p S) (hb : W.cell? ⟨fb, 0, none⟩ = some (.pointer (some ⟨g, 0, none⟩)))
  (ha : W.cell? ⟨ab, 0, none⟩ = some (.slice A rows.length c0)) (hC : Kd.C (Kd.slice 3 (Kd.int .i64)) W A rows.length rows) (hx : x ∈ rows) (hX : Kd.C (Kd.int .i64) W A' x.length x) :
  Calls Tryz.prog 160 #[.slice A' x.length c', .pointer (some ⟨ab, 0, none⟩), .pointer (some ⟨fb, 0, none⟩)] W fun e w' => e = .returned (.bool false) ∧ Drawn0 W w' := by
 obtain ⟨r0, hr0⟩ : ∃ r, rows[0]? = some r := ⟨_, List.getElem?_eq_getElem (by have := hM.n1; omega)⟩
 obtain ⟨ad, A1, c1, rfl, hcell, hle, hC0⟩ := a9z hC 0 r0 hr0
 have l0 := (hM.each r0 (List.mem_of_getElem? hr0)).1
 have lx := (hM.each x hx).1
 have hc2 := hM.c2
 have HC := Aside0.mk (con_May11.calls (fun _ => false) (.pointer (some ⟨fb, 0, none⟩)) A' c' x W hX (by omega) (fun m y hy => may11.calls g fb S wb p y _ hw (hF.drewN m) hb ((hM.each x hx).2 y hy)))
 have hany : x.any (fun _ => false) = false := by simp
 rw [hany] at HC
 rw [l0] at hcell
 rw [lx] at HC
 rw [lx]
 have n1 : (0 : Int) < (rows.length : Int) := by have := hM.n1; omega
 have hcell' : W.cell? ad = some (.slice A1 cols c1) := by rwa [bTz] at hcell
 have hself : ((cols : Int) != (cols : Int)) = false := by simp
 have hmf : ∀ (fn : Fn) (first cap : Array Value) (w : World), (Instr.makeFunc fn first cap).run Tryz.prog w = .ok (.func fn first cap) w := fun _ _ _ _ => rfl
 generalize rows.length = nr at ha n1
 clear hM hF hC hx hX hr0 hC0 l0 lx hc2 hany hle hcell
 go_enter Tryz.func160, Tryz.ntmps160
 go_wp2_with (first | (go_at_call 161; refine HC.out.mono ?_; rintro e w9 ⟨rfl, m9, rfl⟩))
 go_ret
 exact ⟨rfl, dn_⟩
set_option maxRecDepth 100000 in
set_option maxHeartbeats 1600000 in
theorem dCz.ok (g : Nat) (S : Nat → Prop) (wb p : Int) (A : Option Addr) (c cols : Nat) (rows : List (List Int)) (W : World) (hw : wb = 8 ∨ wb = 16) (hM : MayOk wb rows cols) (hF : Fd W g wb p S) (hC : Kd.C (Kd.slice 3 (Kd.int .i64)) W A rows.length rows) :
  Calls Tryz.prog 128 #[.pointer (some ⟨g, 0, none⟩), .slice A rows.length c] W fun e w' => e = .returned (.bool true) ∧ Below W.heap.size W w' := by
 have hb1 : Below W.heap.size W ((W.alloc (.cells #[.pointer (some ⟨g, 0, none⟩)] 64)).alloc (.cells #[.slice A rows.length c] 61)) := acz (acz (Below.refl _ _) _) _
 have hF1 := hF.below hb1
 have hC1 := Kd.auz hC hb1
 have hc1 : ((W.alloc (.cells #[.pointer (some ⟨g, 0, none⟩)] 64)).alloc (.cells #[.slice A rows.length c] 61)).cell? ⟨W.heap.size, 0, none⟩ = some (.pointer (some ⟨g, 0, none⟩)) := (aaz (adz (bpz W _) _) 0).trans rfl
 have hc2 : ((W.alloc (.cells #[.pointer (some ⟨g, 0, none⟩)] 64)).alloc (.cells #[.slice A rows.length c] 61)).cell? ⟨W.heap.size + 1, 0, none⟩ = some (.slice A rows.length c) := (aaz (buz _ _ _ (by simp)) 0).trans rfl
 have hany : rows.any (fun _ => false) = false := by simp
 have HC := Aside0.mk (fun (m0 : Nat) => con_May1.calls (fun _ => false) (.pointer (some ⟨W.heap.size + 1, 0, none⟩)) (.pointer (some ⟨W.heap.size, 0, none⟩)) A c rows _ (Kd.aYz hC1 m0) (by have := hM.n2; omega) (fun m x A' c' hx hxc hX => may1.calls g W.heap.size (W.heap.size + 1) S wb p A A A' rows.length c c' cols rows x _ hw hM ((hF1.drewN m0).drewN m) hc1 hc2 (Kd.aYz (Kd.aYz hC1 m0) m) hx (Kd.aYz hX m)))
 rw [hany] at HC
 obtain ⟨r0, hr0⟩ : ∃ r, rows[0]? = some r := ⟨_, List.getElem?_eq_getElem (by have := hM.n1; omega)⟩
 obtain ⟨ad, A1, c1, rfl, hcell, hle, hC0⟩ := a9z hC 0 r0 hr0
 have l0 := (hM.each r0 (List.mem_of_getElem? hr0)).1
 rw [l0] at hcell
 have hcell' : W.cell? ad = some (.slice A1 cols c1) := by rwa [bTz] at hcell
 have hcell2 := apz hb1 hcell'
 have hw1 : a4z.f (rows.length : Int) = some true := by unfold a4z.f; rw [if_pos (by have := hM.n1; omega), decide_eq_true (by have := hM.n2; omega)]
 have hw2 : a4z.f (cols : Int) = some true := by unfold a4z.f; rw [if_pos (by have := hM.c1; omega), decide_eq_true (by have := hM.c2; omega)]
 have n1 : (0 : Int) < (rows.length : Int) := by have := hM.n1; omega
 have hmf : ∀ (fn : Fn) (first cap : Array Value) (w : World), (Instr.makeFunc fn first cap).run Tryz.prog w = .ok (.func fn first cap) w := fun _ _ _ _ => rfl
 have HB := Aside0.mk hb1
 have H1 := Aside0.mk hw1
 have H2 := Aside0.mk hw2
 generalize rows.length = nr at *
 clear hM hF hC hF1 hC1 hr0 hC0 l0 hany hle hcell hcell' hw1 hw2 hb1
 go_enter Tryz.func128, Tryz.ntmps128
 go_wp2_with (first | (go_at_call_of 129 (Value.int .i64 (nr : Int)); refine (a4z.calls _ _ _ H1.out).mono ?_; rintro e w9 ⟨rfl, m9, rfl⟩) | (go_at_call 129; refine (a4z.calls _ _ _ H2.out).mono ?_; rintro e w9 ⟨rfl, m8, rfl⟩) | (go_at_call 159; refine (HC.out _).mono ?_; rintro e w9 ⟨rfl, m7, rfl⟩))
 go_ret
 exact ⟨rfl, by repeat (first | exact HB.out | apply akz)⟩
theorem reads_C {k : IntKind} {W : World} {A : Option Addr} {l : List Int} (h : Kd.C (Kd.int k) W A l.length l) : ReadsInt W k A l.length l := by
 refine ⟨rfl, h.2.1, fun hn => ?_⟩
 obtain ⟨ad, hA, _⟩ := h.2.2 hn
 refine ⟨ad, hA, fun j hj => ?_⟩
 obtain ⟨ad', hA', hc⟩ := bBz h j l[j] (List.getElem?_eq_getElem hj)
 rw [hA] at hA'
 cases hA'
 rw [hc, List.getD_eq_getElem?_getD, List.getElem?_eq_getElem hj]
 rfl
theorem bNz {k : IntKind} {e : Nat} {W : World} {base : Nat} {v : Value} {xs : List Int} (h : W.ownsRow base e 1 v xs.length (nums k xs)) : Kd.R (Kd.int k) e W base (fun _ => True) v xs :=
 ⟨fun _ _ => trivial, nums k xs, h, by rw [nums_length]; exact (Nat.mul_one _).symm, fun j p hj => by
  obtain ⟨hlt, rfl⟩ := List.getElem?_eq_some_iff.1 hj
  show ((nums k xs).drop (j * 1)).take 1 = [Value.int k xs[j]]
  rw [Nat.mul_one, List.drop_eq_getElem_cons (by simp [nums]; exact hlt)]
  simp [nums]⟩
theorem A_none {α : Type} {d : Kd α} {W : World} {n : Nat} {xs : List α} (h : Kd.C d W none n xs) : n = 0 := by
 rcases Nat.eq_zero_or_pos n with h0 | h0
 ·exact h0
 ·obtain ⟨ad, e, _⟩ := h.2.2 h0
  cases e
set_option maxRecDepth 100000 in
set_option maxHeartbeats 1600000 in
theorem clone_i.calls (A : Option Addr) (c : Nat) (l : List Int) (W : World) (hC : Kd.C (Kd.int .i64) W A l.length l) (hl : l.length ≤ 1000000) :
  Calls Tryz.prog 131 #[.slice A l.length c] W fun e w' => ∃ v, e = .returned v ∧ Kd.R (Kd.int .i64) 3 w' W.heap.size (fun _ => True) v l ∧ Below W.heap.size W w' := by
 cases A with
 | none =>
  obtain rfl : l = [] := List.eq_nil_of_length_eq_zero (A_none hC)
  have hnil := fun (w : World) => Lib.run_eql_slice_nil (P := Tryz.prog) w 66 3 none 0 c 0 0 Tryz.underlying66
  go_enter Tryz.func131, Tryz.ntmps131
  go_wp2
  go_ret
  exact ⟨_, rfl, Kd.R_nil _ _ _ _ _, Below.refl _ _⟩
 | some ad =>
  have HR := Aside0.mk (reads_C hC)
  clear hC
  have hnil := fun (w : World) => Lib.run_eql_slice_nil (P := Tryz.prog) w 66 3 (some ad) l.length c 0 0 Tryz.underlying66
  have HO := Aside0.mk (World.ownsRow_lit (base := W.heap.size) (e := 3) (size := 1) W #[] 0 (Nat.le_refl _) (by decide) rfl)
  have HB := Aside0.mk (acz (Below.refl W.heap.size W) (.cells #[] 3))
  go_enter Tryz.func131, Tryz.ntmps131
  go_wp2_with ((with_reducible refine axz (b := .append) (xs := #[.tmp 5, .tmp 6]) rfl ?_); at_builtin; refine bGz (w0 := W) W.heap.size rfl (.tmp 5) (.tmp 6) 66 3 .i64 8 rfl Tryz.underlying66 kr_ (by decide) _ [] l (some ad) l.length c rfl rfl ?aO ?aR ?aB ?aS ?aL ?_; (case aO => exact HO.out); (case aR => exact HR.out.below (acz (Below.refl _ _) _)); (case aB => exact HB.out); (case aS => simp); (case aL => simp; omega); intro v1 w1 ho1 hb1 hg1 hat1; have HO1 := Aside0.mk ho1; have HB1 := Aside0.mk hb1; clear ho1 hb1 hg1 hat1)
  go_ret
  exact ⟨_, rfl, bNz HO1.out, HB1.out⟩
set_option maxRecDepth 100000 in
set_option maxHeartbeats 1600000 in
theorem clone_b.calls (A : Option Addr) (c : Nat) (l : List Int) (W : World) (hC : Kd.C (Kd.int .u8) W A l.length l) (hl : l.length ≤ 1000000) :
  Calls Tryz.prog 57 #[.slice A l.length c] W fun e w' => ∃ v, e = .returned v ∧ Kd.R (Kd.int .u8) 5 w' W.heap.size (fun _ => True) v l ∧ Below W.heap.size W w' := by
 cases A with
 | none =>
  obtain rfl : l = [] := List.eq_nil_of_length_eq_zero (A_none hC)
  have hnil := fun (w : World) => Lib.run_eql_slice_nil (P := Tryz.prog) w 34 5 none 0 c 0 0 Tryz.underlying34
  go_enter Tryz.func57, Tryz.ntmps57
  go_wp2
  go_ret
  exact ⟨_, rfl, Kd.R_nil _ _ _ _ _, Below.refl _ _⟩
 | some ad =>
  have HR := Aside0.mk (reads_C hC)
  clear hC
  have hnil := fun (w : World) => Lib.run_eql_slice_nil (P := Tryz.prog) w 34 5 (some ad) l.length c 0 0 Tryz.underlying34
  have HO := Aside0.mk (World.ownsRow_lit (base := W.heap.size) (e := 5) (size := 1) W #[] 0 (Nat.le_refl _) (by decide) rfl)
  have HB := Aside0.mk (acz (Below.refl W.heap.size W) (.cells #[] 5))
  go_enter Tryz.func57, Tryz.ntmps57
  go_wp2_with ((with_reducible refine axz (b := .append) (xs := #[.tmp 5, .tmp 6]) rfl ?_); at_builtin; refine bGz (w0 := W) W.heap.size rfl (.tmp 5) (.tmp 6) 34 5 .u8 1 rfl Tryz.underlying34 kr_ (by decide) _ [] l (some ad) l.length c rfl rfl ?aO ?aR ?aB ?aS ?aL ?_; (case aO => exact HO.out); (case aR => exact HR.out.below (acz (Below.refl _ _) _)); (case aB => exact HB.out); (case aS => simp); (case aL => simp; omega); intro v1 w1 ho1 hb1 hg1 hat1; have HO1 := Aside0.mk ho1; have HB1 := Aside0.mk hb1; clear ho1 hb1 hg1 hat1)
  go_ret
  exact ⟨_, rfl, bNz HO1.out, HB1.out⟩
theorem own_cut0 {W : World} {base e size g n c : Nat} {xs : List Value} (h : W.ownsRow base e size (.slice (some ⟨g, 0, none⟩) n c) n xs) : W.ownsRow base e size (.slice (some ⟨g, 0, none⟩) 0 c) 0 [] := by
 obtain ⟨h1, h2 | ⟨g', cap, cur, he, hb, hh, h3, h4, h5, h6⟩⟩ := h
 ·cases h2.1
 ·injection he with e1 e2 e3
  injection e1 with e1
  injection e1 with e1
  subst e1
  subst e3
  exact ⟨by simp, .inr ⟨g, c, cur, rfl, hb, hh, Nat.zero_le _, h4, h5, by simp⟩⟩
set_option maxRecDepth 100000 in
set_option maxHeartbeats 1600000 in
theorem grow_i.calls (n : Nat) (W : World) (hn : n ≤ 1000000) :
  Calls Tryz.prog 171 #[.slice none 0 0, .int .i64 (n : Int)] W fun e w' => ∃ v, e = .returned v ∧ w'.ownsRow W.heap.size 3 1 v 0 [] ∧ Below W.heap.size W w' := by
 have n0 : decide ((n : Int) < 0) = false := decide_eq_false (by omega)
 by_cases h0 : n = 0
 ·subst h0
  go_enter Tryz.func171, Tryz.ntmps171
  go_wp2
  go_ret
  exact ⟨_, rfl, own_nil _ _ _ _, Below.refl _ _⟩
 ·have p0 : (0 : Int) < (n : Int) := by omega
  have p1 : ¬ ((n : Int) < 0) := by omega
  have HB := Aside0.mk (Below.refl W.heap.size W)
  go_enter Tryz.func171, Tryz.ntmps171
  go_wp2_with ((with_reducible refine axz (b := .append) (xs := #[.tmp 20, .tmp 21]) rfl ?_); at_builtin; refine Kd.dwz (Kd.int .i64) (w0 := W) W.heap.size rfl (.tmp 20) (.tmp 21) 66 3 3 (.int .i64 0) 8 rfl Tryz.underlying66 Tryz.underlying3 kr_ rfl (by decide) (by decide) _ [] 0 (n : Int) (fun _ => True) rfl rfl ?aZ (fun _ _ => trivial) (Kd.R_nil _ _ _ _ _) ?a0 HB.out (Nat.le_refl _) ?aL ?_; (case aZ => exact rfl); (case a0 => omega); (case aL => simp; omega); intro v1 w1 ho1 hb1 hg1 hat1; obtain ⟨g, cc, rfl, -, -, -⟩ := Kd.b7z ho1 (by simp; omega); obtain ⟨inner, hown⟩ := Kd.R_own ho1; have HO1 := Aside0.mk (own_cut0 hown); have HB1 := Aside0.mk hb1; have hcc : 0 ≤ cc := Nat.zero_le _; clear ho1 hb1 hg1 hat1 hown)
  go_ret
  exact ⟨_, rfl, HO1.out, HB1.out⟩
set_option maxRecDepth 100000 in
set_option maxHeartbeats 1600000 in
theorem grow_b.calls (n : Nat) (W : World) (hn : n ≤ 1000000) :
  Calls Tryz.prog 101 #[.slice none 0 0, .int .i64 (n : Int)] W fun e w' => ∃ v, e = .returned v ∧ w'.ownsRow W.heap.size 5 1 v 0 [] ∧ Below W.heap.size W w' := by
 have n0 : decide ((n : Int) < 0) = false := decide_eq_false (by omega)
 by_cases h0 : n = 0
 ·subst h0
  go_enter Tryz.func101, Tryz.ntmps101
  go_wp2
  go_ret
  exact ⟨_, rfl, own_nil _ _ _ _, Below.refl _ _⟩
 ·have p0 : (0 : Int) < (n : Int) := by omega
  have p1 : ¬ ((n : Int) < 0) := by omega
  have HB := Aside0.mk (Below.refl W.heap.size W)
  go_enter Tryz.func101, Tryz.ntmps101
  go_wp2_with ((with_reducible refine axz (b := .append) (xs := #[.tmp 20, .tmp 21]) rfl ?_); at_builtin; refine Kd.dwz (Kd.int .u8) (w0 := W) W.heap.size rfl (.tmp 20) (.tmp 21) 34 3 5 (.int .u8 0) 1 rfl Tryz.underlying34 Tryz.underlying3 kr_ rfl (by decide) (by decide) _ [] 0 (n : Int) (fun _ => True) rfl rfl ?aZ (fun _ _ => trivial) (Kd.R_nil _ _ _ _ _) ?a0 HB.out (Nat.le_refl _) ?aL ?_; (case aZ => exact rfl); (case a0 => omega); (case aL => simp; omega); intro v1 w1 ho1 hb1 hg1 hat1; obtain ⟨g, cc, rfl, -, -, -⟩ := Kd.b7z ho1 (by simp; omega); obtain ⟨inner, hown⟩ := Kd.R_own ho1; have HO1 := Aside0.mk (own_cut0 hown); have HB1 := Aside0.mk hb1; have hcc : 0 ≤ cc := Nat.zero_le _; clear ho1 hb1 hg1 hat1 hown)
  go_ret
  exact ⟨_, rfl, HO1.out, HB1.out⟩
theorem dlz (rows : List (List Int)) (k : Nat) (x : List Int) (hx : rows[k]? = some x) : (rows.take (k + 1)).flatten = (rows.take k).flatten ++ x := by
 rw [List.take_add_one, hx]; simp
theorem cYz (rows : List (List Int)) (k : Nat) : (rows.take k).flatten.length ≤ rows.flatten.length := by
 conv => rhs; rw [← List.take_append_drop k rows, List.flatten_append, List.length_append]
 omega
set_option maxRecDepth 100000 in
set_option maxHeartbeats 1600000 in
theorem concat_i.calls (A : Option Addr) (c : Nat) (rows : List (List Int)) (W : World) (hC : Kd.C (Kd.slice 3 (Kd.int .i64)) W A rows.length rows) (hr : rows.length ≤ 1000000) (hl : rows.flatten.length ≤ 1000000) :
  Calls Tryz.prog 149 #[.slice A rows.length c] W fun e w' => ∃ v, e = .returned v ∧ Kd.R (Kd.int .i64) 3 w' W.heap.size (fun _ => True) v rows.flatten ∧ Below W.heap.size W w' := by
 have HC := Aside0.mk hC
 clear hC
 go_enter Tryz.func149, Tryz.ntmps149
 go_wp2
 go_loop [3, 11] (fun s i => ∃ k z : Nat, k ≤ rows.length ∧ s = .int .i64 (z : Int) ∧ i = .int .i64 (k : Int) ∧ Aside0 (z = (rows.take k).flatten.length)) (fun _ i => rows.length - (intOf i).toNat)
 case atStart => exact ⟨0, 0, Nat.zero_le _, rfl, rfl, ⟨rfl⟩⟩
 obtain ⟨k, z, hk, rfl, rfl, HZ⟩ := hrel
 have hz : z ≤ 1000000 := by have := cYz rows k; have := HZ.out; omega
 by_cases hlt : k < rows.length
 ·obtain ⟨x, hx⟩ : ∃ x, rows[k]? = some x := ⟨_, List.getElem?_eq_getElem hlt⟩
  obtain ⟨ad, A', c', rfl, hcell, hle, hCx⟩ := a9z HC.out k x hx
  have HZ1 := Aside0.mk (show z + x.length = (rows.take (k + 1)).flatten.length by rw [dlz rows k x hx, List.length_append, ← HZ.out])
  have hz1 : z + x.length ≤ 1000000 := by have := cYz rows (k + 1); have := HZ1.out; omega
  have hn0 : decide ((z : Int) + (x.length : Int) < 0) = false := decide_eq_false (by omega)
  have hn1 : ¬ ((z : Int) + (x.length : Int) < 0) := by omega
  clear hx hCx hle
  go_wp2
  go_round
  case rel => exact ⟨k + 1, z + x.length, by omega, by go_num, by go_num, HZ1⟩
  case measure => simp [intOf]; omega
 ·obtain rfl : k = rows.length := by omega
  clear hk hlt
  have HG := Aside0.mk (grow_i.calls z W hz)
  go_wp2_with (first | (go_at_call 171; refine HG.out.mono ?_; rintro e w1 ⟨v, rfl, hv, hB⟩))
  have HV := Aside0.mk hv
  have HB := Aside0.mk hB
  clear hv hB HG
  go_loopw [6, 27] (fun v i wr => ∃ k : Nat, k ≤ rows.length ∧ i = .int .i64 (k : Int) ∧ Aside0 (wr.ownsRow W.heap.size 3 1 v (rows.take k).flatten.length (nums .i64 (rows.take k).flatten)) ∧ Aside0 (Below W.heap.size W wr)) (fun _ i _ => rows.length - (intOf i).toNat)
  case atStart => exact ⟨0, Nat.zero_le _, rfl, HV, HB⟩
  clear HV HB
  obtain ⟨k, hk, rfl, HV, HB⟩ := hrel
  by_cases hlt : k < rows.length
  ·obtain ⟨x, hx⟩ : ∃ x, rows[k]? = some x := ⟨_, List.getElem?_eq_getElem hlt⟩
   obtain ⟨ad, A', c', rfl, hcell, hle, hCx⟩ := a9z (Kd.auz HC.out HB.out) k x hx
   have HX := Aside0.mk (dlz rows k x hx)
   have HCX := Aside0.mk (reads_C hCx)
   have HL := Aside0.mk (cYz rows (k + 1))
   rw [HX.out, List.length_append] at HL
   clear hx hCx hle
   go_wp2_with ((with_reducible refine axz (b := .append) (xs := #[.tmp 31, .tmp 32]) rfl ?_); at_builtin; refine bGz (w0 := W) W.heap.size rfl (.tmp 31) (.tmp 32) 66 3 .i64 8 rfl Tryz.underlying66 kr_ (by decide) _ _ x A' x.length c' rfl rfl HV.out HCX.out HB.out HB.out.size ?aL ?_; (case aL => have := HL.out; omega); intro v1 w1 ho1 hb1 hg1 hat1; have HV1 := Aside0.mk ho1; have HB1 := Aside0.mk hb1; clear ho1 hb1 hg1 hat1)
   go_roundw
   case rel => exact ⟨k + 1, by omega, by go_num, ⟨by rw [HX.out]; exact HV1.out⟩, HB1⟩
   case measure => simp [intOf]; omega
  ·obtain rfl : k = rows.length := by omega
   have HF := Aside0.mk (bNz HV.out)
   rw [List.take_length] at HF
   go_wp2
   go_ret
   exact ⟨_, rfl, HF.out, HB.out⟩
set_option maxRecDepth 100000 in
set_option maxHeartbeats 1600000 in
theorem dDz.calls (A : Option Addr) (c : Nat) (rows : List (List Int)) (W : World) (hC : Kd.C (Kd.slice 5 (Kd.int .u8)) W A rows.length rows) (hr : rows.length ≤ 1000000) (hl : rows.flatten.length ≤ 1000000) :
  Calls Tryz.prog 66 #[.slice A rows.length c] W fun e w' => ∃ v, e = .returned v ∧ Kd.R (Kd.int .u8) 5 w' W.heap.size (fun _ => True) v rows.flatten ∧ Below W.heap.size W w' := by
 have HC := Aside0.mk hC
 clear hC
 go_enter Tryz.func66, Tryz.ntmps66
 go_wp2
 go_loop [3, 11] (fun s i => ∃ k z : Nat, k ≤ rows.length ∧ s = .int .i64 (z : Int) ∧ i = .int .i64 (k : Int) ∧ Aside0 (z = (rows.take k).flatten.length)) (fun _ i => rows.length - (intOf i).toNat)
 case atStart => exact ⟨0, 0, Nat.zero_le _, rfl, rfl, ⟨rfl⟩⟩
 obtain ⟨k, z, hk, rfl, rfl, HZ⟩ := hrel
 have hz : z ≤ 1000000 := by have := cYz rows k; have := HZ.out; omega
 by_cases hlt : k < rows.length
 ·obtain ⟨x, hx⟩ : ∃ x, rows[k]? = some x := ⟨_, List.getElem?_eq_getElem hlt⟩
  obtain ⟨ad, A', c', rfl, hcell, hle, hCx⟩ := a9z HC.out k x hx
  have HZ1 := Aside0.mk (show z + x.length = (rows.take (k + 1)).flatten.length by rw [dlz rows k x hx, List.length_append, ← HZ.out])
  have hz1 : z + x.length ≤ 1000000 := by have := cYz rows (k + 1); have := HZ1.out; omega
  have hn0 : decide ((z : Int) + (x.length : Int) < 0) = false := decide_eq_false (by omega)
  have hn1 : ¬ ((z : Int) + (x.length : Int) < 0) := by omega
  clear hx hCx hle
  go_wp2
  go_round
  case rel => exact ⟨k + 1, z + x.length, by omega, by go_num, by go_num, HZ1⟩
  case measure => simp [intOf]; omega
 ·obtain rfl : k = rows.length := by omega
  clear hk hlt
  have HG := Aside0.mk (grow_b.calls z W hz)
  go_wp2_with (first | (go_at_call 101; refine HG.out.mono ?_; rintro e w1 ⟨v, rfl, hv, hB⟩))
  have HV := Aside0.mk hv
  have HB := Aside0.mk hB
  clear hv hB HG
  go_loopw [6, 27] (fun v i wr => ∃ k : Nat, k ≤ rows.length ∧ i = .int .i64 (k : Int) ∧ Aside0 (wr.ownsRow W.heap.size 5 1 v (rows.take k).flatten.length (nums .u8 (rows.take k).flatten)) ∧ Aside0 (Below W.heap.size W wr)) (fun _ i _ => rows.length - (intOf i).toNat)
  case atStart => exact ⟨0, Nat.zero_le _, rfl, HV, HB⟩
  clear HV HB
  obtain ⟨k, hk, rfl, HV, HB⟩ := hrel
  by_cases hlt : k < rows.length
  ·obtain ⟨x, hx⟩ : ∃ x, rows[k]? = some x := ⟨_, List.getElem?_eq_getElem hlt⟩
   obtain ⟨ad, A', c', rfl, hcell, hle, hCx⟩ := a9z (Kd.auz HC.out HB.out) k x hx
   have HX := Aside0.mk (dlz rows k x hx)
   have HCX := Aside0.mk (reads_C hCx)
   have HL := Aside0.mk (cYz rows (k + 1))
   rw [HX.out, List.length_append] at HL
   clear hx hCx hle
   go_wp2_with ((with_reducible refine axz (b := .append) (xs := #[.tmp 31, .tmp 32]) rfl ?_); at_builtin; refine bGz (w0 := W) W.heap.size rfl (.tmp 31) (.tmp 32) 34 5 .u8 1 rfl Tryz.underlying34 kr_ (by decide) _ _ x A' x.length c' rfl rfl HV.out HCX.out HB.out HB.out.size ?aL ?_; (case aL => have := HL.out; omega); intro v1 w1 ho1 hb1 hg1 hat1; have HV1 := Aside0.mk ho1; have HB1 := Aside0.mk hb1; clear ho1 hb1 hg1 hat1)
   go_roundw
   case rel => exact ⟨k + 1, by omega, by go_num, ⟨by rw [HX.out]; exact HV1.out⟩, HB1⟩
   case measure => simp [intOf]; omega
  ·obtain rfl : k = rows.length := by omega
   have HF := Aside0.mk (bNz HV.out)
   rw [List.take_length] at HF
   go_wp2
   go_ret
   exact ⟨_, rfl, HF.out, HB.out⟩
end Go.Proofs.YtelcllhibpnneaaGreat.XCo
end
section
namespace Go.Proofs.YtelcllhibpnneaaGreat.XCo
open Go.RowKit Go.Proofs.YtelcllhibpnneaaGreatW.PrintWords Go.Proofs.YtelcllhibpnneaaGreatW.PrintLast Go.Proofs.YtelcllhibpnneaaGreatW.PrintMore
attribute [local go_sem] aGz aHz aMz aNz aCz aDz aIz aJz
set_option linter.unusedVariables false
set_option linter.unusedSimpArgs false
set_option maxRecDepth 100000 in
set_option maxHeartbeats 1600000 in
theorem square.ok (g : Nat) (S : Nat → Prop) (wb p : Int) (A : Option Addr) (c : Nat) (rows : List (List Int)) (W : World) (hw : wb = 8 ∨ wb = 16) (hM : MayOk wb rows rows.length) (hF : Fd W g wb p S) (hC : Kd.C (Kd.slice 3 (Kd.int .i64)) W A rows.length rows) :
  Calls Tryz.prog 132 #[.pointer (some ⟨g, 0, none⟩), .slice A rows.length c] W fun e w' => e = .returned (.bool true) ∧ Below W.heap.size W w' := by
 have HM := Aside0.mk (dCz.ok g S wb p A c rows.length rows W hw hM hF hC)
 obtain ⟨r0, hr0⟩ : ∃ r, rows[0]? = some r := ⟨_, List.getElem?_eq_getElem (by have := hM.n1; omega)⟩
 obtain ⟨ad, A1, c1, rfl, hcell, hle, hC0⟩ := a9z hC 0 r0 hr0
 have l0 := (hM.each r0 (List.mem_of_getElem? hr0)).1
 rw [l0, bTz] at hcell
 have n1 : (0 : Int) < (rows.length : Int) := by have := hM.n1; omega
 generalize rows.length = nr at *
 have hself : ((nr : Int) == (nr : Int)) = true := by simp
 clear hM hF hC hr0 hC0 l0 hle
 go_enter Tryz.func132, Tryz.ntmps132
 go_wp2_with (first | (go_at_call 128; refine HM.out.mono ?_; rintro e w1 ⟨rfl, hB⟩; have hcell1 := apz hB hcell; have HB := Aside0.mk hB; clear hB))
 go_ret
 exact ⟨rfl, HB.out⟩
abbrev dM (e : Nat) (k : IntKind) : Kd (List Int) := Kd.slice e (Kd.int k)
theorem S_fresh {e t : Nat} {k : IntKind} {wr w1 : World} {B : Nat} {v u : Value} {xs : List (List Int)} {row : List Int} (HO : Kd.S (dM e k) t wr B (fun _ => True) v xs) (hb : Below wr.heap.size wr w1) (hB : B ≤ wr.heap.size) (hrow : Kd.R (Kd.int k) e w1 wr.heap.size (fun _ => True) u row) :
  Kd.S (dM e k) t w1 B (fun k' => True ∧ ¬ wr.heap.size ≤ k') v xs ∧ (dM e k).M w1 B (fun k' => wr.heap.size ≤ k') row [u] ∧ (∀ k', wr.heap.size ≤ k' → True ∧ some k' ≠ v.ownBlock) := by
 refine ⟨?_, ⟨u, rfl, ?_⟩, fun k' hk => ⟨trivial, fun e' => ?_⟩⟩
 ·have h1 := Kd.bqz HO
  exact Kd.cUz (Kd.bMz h1 (fun k' hk => ⟨trivial, by have := hk.2.2.1; omega⟩)) hb
 ·exact Kd.bkz (Kd.aSz (Kd.bjz hrow) (fun k' hk => hk.2.1)) hB
 ·have h1 := (Kd.bqz HO)
  obtain ⟨f, h0, -⟩ := h1
  have := (h0 k' e'.symm).2.2.1
  omega
theorem zip_take {α β γ : Type} (f : α → β → γ) : ∀ (a : List α) (b : List β), List.zipWith f a b = List.zipWith f a (b.take a.length)
 | [], _ => by simp
 | _ :: _, [] => by simp
 | x :: a, y :: b => by simp [← zip_take f a b]
theorem C_two {e t : Nat} {k : IntKind} {W : World} {g : Nat} {A B : Option Addr} {x y : List Int} {c d : Nat} (h : W.heap[g]? = some (.cells #[.slice A x.length c, .slice B y.length d] t (0, 0))) (hx : Kd.C (Kd.int k) W A x.length x) (hc : x.length ≤ c) (hy : Kd.C (Kd.int k) W B y.length y) (hd : y.length ≤ d) :
  Kd.C (dM e k) W (some ⟨g, 0, none⟩) [x, y].length [x, y] := by
 refine ⟨rfl, by simp, fun _ => ⟨_, rfl, fun j p hp => ?_⟩⟩
 have hadd : ∀ j : Nat, (⟨g, 0, none⟩ : Addr).add (j * (dM e k).sz + 0) = ⟨g, j, none⟩ := fun j => by
  show (⟨g, 0, none⟩ : Addr).add (j * 1 + 0) = _
  unfold Addr.add
  split <;> simp_all
 match j, hp with
 | 0, hp =>
  obtain rfl : x = p := by simpa using hp
  refine ⟨[.slice A x.length c], rfl, ⟨A, c, rfl, hc, hx⟩, fun i u hu => ?_⟩
  cases i with
  | succ i => simp at hu
  | zero =>
   obtain rfl : Value.slice A x.length c = u := by simpa using hu
   rw [hadd 0, aaz h 0]; rfl
 | 1, hp =>
  obtain rfl : y = p := by simpa using hp
  refine ⟨[.slice B y.length d], rfl, ⟨B, d, rfl, hd, hy⟩, fun i u hu => ?_⟩
  cases i with
  | succ i => simp at hu
  | zero =>
   obtain rfl : Value.slice B y.length d = u := by simpa using hu
   rw [hadd 1, aaz h 1]; rfl
 | j + 2, hp => simp at hp
set_option maxRecDepth 100000 in
set_option maxHeartbeats 1600000 in
theorem beside.calls (A B : Option Addr) (c1 c2 n : Nat) (a b : List (List Int)) (W : World) (hA : Kd.C (dM 3 .i64) W A a.length a) (hB : Kd.C (dM 3 .i64) W B b.length b) (hla : a.length ≤ 1000) (hlb : a.length ≤ b.length) (hr : ∀ x, x ∈ a → x.length ≤ 1000) (hr' : ∀ x, x ∈ b → x.length ≤ 1000) :
  Calls Tryz.prog 133 #[.slice A a.length c1, .slice B b.length c2] W fun e w' => ∃ v, e = .returned v ∧ Kd.S (dM 3 .i64) 66 w' W.heap.size (fun _ => True) v (List.zipWith (· ++ ·) a b) ∧ Below W.heap.size W w' := by
 have HCA := Aside0.mk hA
 have HCB := Aside0.mk hB
 have HRA := Aside0.mk hr
 have HRB := Aside0.mk hr'
 clear hA hB hr hr'
 go_enter Tryz.func133, Tryz.ntmps133
 go_wp2
 go_loopw [5, 10] (fun v i wr => ∃ k : Nat, k ≤ a.length ∧ i = .int .i64 (k : Int) ∧ Aside0 (Kd.S (dM 3 .i64) 66 wr W.heap.size (fun _ => True) v (List.zipWith (· ++ ·) (a.take k) (b.take k))) ∧ Aside0 (Below W.heap.size W wr)) (fun _ i _ => a.length - (intOf i).toNat)
 case atStart => exact ⟨0, Nat.zero_le _, rfl, ⟨Kd.S_nil _ _ _ _ _⟩, ⟨Below.refl _ _⟩⟩
 obtain ⟨k, hk, rfl, HO, HB⟩ := hrel
 by_cases hlt : k < a.length
 ·obtain ⟨x, hx⟩ : ∃ x, a[k]? = some x := ⟨_, List.getElem?_eq_getElem hlt⟩
  obtain ⟨y, hy⟩ : ∃ y, b[k]? = some y := ⟨_, List.getElem?_eq_getElem (by omega)⟩
  obtain ⟨ad, A', c', rfl, hcell, hle, hCx⟩ := a9z (Kd.auz HCA.out HB.out) k x hx
  obtain ⟨bd, B', d', rfl, hcell2, hle2, hCy⟩ := a9z (Kd.auz HCB.out HB.out) k y hy
  have HZ := Aside0.mk (show List.zipWith (· ++ ·) (a.take (k + 1)) (b.take (k + 1)) = List.zipWith (· ++ ·) (a.take k) (b.take k) ++ [x ++ y] by
   rw [List.take_add_one, List.take_add_one, hx, hy]
   rw [List.zipWith_append (by simp; omega)]
   rfl)
  have hlz : (List.zipWith (· ++ ·) (a.take k) (b.take k)).length ≤ 1000 := by simp; omega
  have HLZ := Aside0.mk hlz
  have hblk : (wr.alloc (.cells #[.slice A' x.length c', .slice B' y.length d'] 66)).heap[wr.heap.size]? = some (.cells #[.slice A' x.length c', .slice B' y.length d'] 66 (0, 0)) := heap_alloc_new _ _
  have HC2 := Aside0.mk (C_two (e := 3) hblk (Kd.auz hCx (acz (Below.refl _ _) _)) hle (Kd.auz hCy (acz (Below.refl _ _) _)) hle2)
  have HCC := Aside0.mk (concat_i.calls (some ⟨wr.heap.size, 0, none⟩) 2 [x, y] _ HC2.out (by simp) (by have := HRA.out x (List.mem_of_getElem? hx); have := HRB.out y (List.mem_of_getElem? hy); simp; omega))
  have hltb : k < b.length := by omega
  clear hx hy hCx hCy hle hle2 hblk hlz
  go_wp2_with fail
  refine HCC.out.mono ?_
  rintro e w1 ⟨u, rfl, hu, hb1⟩
  rw [show [x, y].flatten = x ++ y by simp] at hu
  obtain ⟨ua, uc, rfl⟩ := Kd.baz hu
  generalize (x ++ y).length = nn at hu ⊢
  have hsf := S_fresh (Kd.cVz HO.out (.cells #[.slice A' x.length c', .slice B' y.length d'] 66)) hb1 (Nat.le_trans HB.out.size (by simp)) hu
  have HS1 := Aside0.mk hsf.1
  have HM1 := Aside0.mk hsf.2.1
  have HOK := Aside0.mk hsf.2.2
  have HB1 := Aside0.mk (HB.out.trans ((cgz (acz (Below.refl _ _) _) hb1).mono HB.out.size))
  have HSZ := Aside0.mk hb1.size
  clear hu hb1 hsf
  go_wp2_with ((with_reducible refine axz (b := .append) (xs := #[.tmp 15, .tmp 23]) rfl ?_); go_must (at_builtin; refine Kd.bHz (dM 3 .i64) (w0 := W) W.heap.size rfl (.tmp 15) (.tmp 23) 61 66 (.slice none 0 0) 24 rfl Tryz.underlying61 kr_ rfl (by decide) (by decide) _ _ (x ++ y) [.slice ua nn uc] (fun _ => True) (fun k' => (wr.alloc (.cells #[.slice A' x.length c', .slice B' y.length d'] 66)).heap.size ≤ k') rfl rfl HM1.out HOK.out (fun _ _ => trivial) HS1.out HB1.out HB1.out.size ?aL ?_; (case aL => have := HLZ.out; omega)); intro v2 w2 ho2 hb2 hg2 hat2; have HO2 := Aside0.mk ho2; have HB2 := Aside0.mk hb2; clear ho2 hb2 hg2 hat2)
  go_roundw
  case rel => exact ⟨k + 1, by omega, by go_num, ⟨by rw [HZ.out]; exact HO2.out⟩, HB2⟩
  case measure => simp [intOf]; omega
 ·obtain rfl : k = a.length := by omega
  have HF := Aside0.mk HO.out
  rw [List.take_length] at HF
  go_wp2
  go_ret
  refine ⟨_, rfl, ?_, HB.out⟩
  rw [zip_take]
  exact HF.out
end Go.Proofs.YtelcllhibpnneaaGreat.XCo
end
section
namespace Go.Proofs.YtelcllhibpnneaaGreat.XCo
open Go.RowKit Go.Proofs.YtelcllhibpnneaaGreatW.PrintWords Go.Proofs.YtelcllhibpnneaaGreatW.PrintLast Go.Proofs.YtelcllhibpnneaaGreatW.PrintMore
attribute [local go_sem] aGz aHz aMz aNz aCz aDz aIz aJz
set_option linter.unusedVariables false
set_option linter.unusedSimpArgs false
def dotF (wb : Int) : List Int → List Int → Int → Int
 | x :: a, y :: b, s => dotF wb a b (Go.bits .xor .i64 s (gmul wb x y))
 | _, _, s => s
theorem dotF_drop (wb : Int) (a b : List Int) (s : Int) (k : Nat) (x y : Int) (hx : a[k]? = some x) (hy : b[k]? = some y) : dotF wb (a.drop k) (b.drop k) s = dotF wb (a.drop (k + 1)) (b.drop (k + 1)) (Go.bits .xor .i64 s (gmul wb x y)) := by
 obtain ⟨h1, rfl⟩ := List.getElem?_eq_some_iff.1 hx
 obtain ⟨h2, rfl⟩ := List.getElem?_eq_some_iff.1 hy
 rw [List.drop_eq_getElem_cons h1, List.drop_eq_getElem_cons h2, dotF]
theorem dotF_end (wb : Int) (a b : List Int) (s : Int) : dotF wb (a.drop a.length) b s = s := by
 rw [List.drop_length]; cases b <;> rfl
abbrev NotG (g : Nat) : Nat → Prop := fun k => k ≠ g
theorem F_bb {α : Type} {d : Kd α} {W W1 : World} {g : Nat} {A : Option Addr} {n : Nat} {xs : List α} (h : Kd.F d W (NotG g) A n xs) (hb : BB W W1 g) : Kd.F d W1 (NotG g) A n xs := Kd.F_keep h hb.keep (fun _ hk => hk)
set_option maxRecDepth 100000 in
set_option maxHeartbeats 1600000 in
theorem matrix_dot.calls (g : Nat) (S : Nat → Prop) (wb : Int) (A B : Option Addr) (ca cb : Nat) (a b : List Int) (W : World) (hw : wb = 8 ∨ wb = 16) (hF : Fd W g wb (fpoly wb) S) (hS : ∀ k, S k → k < W.heap.size) (hla : a.length ≤ 1000) (hlb : a.length ≤ b.length)
  (ha : Kd.F (Kd.int .i64) W (NotG g) A a.length a) (hb : Kd.F (Kd.int .i64) W (NotG g) B b.length b) :
  Calls Tryz.prog 174 #[.pointer (some ⟨g, 0, none⟩), .slice A a.length ca, .slice B b.length cb] W fun e w' => e = .returned (.int .i64 (dotF wb a b 0)) ∧ Fd w' g wb (fpoly wb) S ∧ BB W w' g := by
 have HF := Aside0.mk hF
 have HS := Aside0.mk hS
 have HW := Aside0.mk hw
 have HA := Aside0.mk ha
 have HB := Aside0.mk hb
 obtain ⟨R, hR⟩ : ∃ R, dotF wb a b 0 = R := ⟨_, rfl⟩
 rw [hR]
 have HR := Aside0.mk (show dotF wb (a.drop 0) (b.drop 0) 0 = R from hR)
 clear hF hS hw ha hb hR
 go_enter Tryz.func174, Tryz.ntmps174
 go_wp2
 go_loopw [7, 12] (fun s i wr => ∃ (k : Nat) (z : Int), k ≤ a.length ∧ s = .int .i64 z ∧ i = .int .i64 k ∧ Aside0 (dotF wb (a.drop k) (b.drop k) z = R) ∧ Aside0 (Fd wr g wb (fpoly wb) S) ∧ Aside0 (BB W wr g)) (fun _ i _ => a.length - (intOf i).toNat)
 case atStart => exact ⟨0, 0, Nat.zero_le _, rfl, rfl, HR, HF, ⟨BB.refl _ _⟩⟩
 clear HR HF
 obtain ⟨k, z, hk, rfl, rfl, HR, HF, HBB⟩ := hrel
 by_cases hlt : k < a.length
 ·obtain ⟨x, hx⟩ : ∃ x, a[k]? = some x := ⟨_, List.getElem?_eq_getElem hlt⟩
  obtain ⟨y, hy⟩ : ∃ y, b[k]? = some y := ⟨_, List.getElem?_eq_getElem (by omega)⟩
  obtain ⟨ad, rfl, hc1⟩ := bBz (Kd.F_now (F_bb HA.out HBB.out)) k x hx
  obtain ⟨bd, rfl, hc2⟩ := bBz (Kd.F_now (F_bb HB.out HBB.out)) k y hy
  have HR1 := Aside0.mk ((dotF_drop wb a b z k x y hx hy).symm.trans HR.out)
  have hltb : k < b.length := by omega
  clear hx hy
  go_wp2_with (first | (go_at_call 95; refine (bxz.calls g S wb x y _ HW.out HF.out (fun k hk => Nat.lt_of_lt_of_le (HS.out k hk) HBB.out.size)).mono ?_; rintro e w3 ⟨rfl, q1, q2⟩))
  go_roundw
  case rel => exact ⟨k + 1, _, by omega, rfl, by go_num, HR1, ⟨q1⟩, ⟨HBB.out.trans q2⟩⟩
  case measure => simp [intOf]; omega
 ·obtain rfl : k = a.length := by omega
  have HE := Aside0.mk ((dotF_end wb a (b.drop a.length) z).symm.trans HR.out)
  go_wp2
  go_ret
  refine ⟨?_, HF.out, HBB.out⟩
  rw [← HE.out]; rfl
theorem append_int_run {W : World} {base : Nat} {v : Value} {xs : List Int} (z : Int) (HO : (Kd.int .i64).R 3 W base (fun _ => True) v xs) (hb : base ≤ W.heap.size) (hl : xs.length ≤ 1000) :
  ∃ v1 w1, (Builtin.append_ #[66, 66] 66 #[v, .slice (some ⟨W.heap.size, 0, none⟩) 1 1]).run Tryz.prog (W.alloc (.cells #[.int .i64 z] 3)) = .ok v1 w1 ∧ (Kd.int .i64).R 3 w1 base (fun _ => True) v1 (xs ++ [z]) ∧ W.grownBy w1 v.ownBlock ∧ (v1.ownBlock = v.ownBlock ∨ ∃ b, v1.ownBlock = some b ∧ W.heap.size ≤ b) := by
 obtain ⟨h0, inner, hown, hr⟩ := HO
 obtain ⟨i0, hi, hz0, hz1, hz2⟩ := info_parts info3
 have hcell : (W.alloc (.cells #[.int .i64 z] 3)).heap[W.heap.size]? = some (.cells #[.int .i64 z] 3 (0, 0)) := heap_alloc_new _ _
 obtain ⟨v1, w1, hrun, h1, h2, -, h4⟩ := run_append_own_at (P := Tryz.prog) (w := W.alloc (.cells #[.int .i64 z] 3)) base 66 66 3 i0 (.int .i64 0) 1 8 Tryz.underlying66 hi hz0 hz1 hz2 rfl (by decide) v xs.length inner (dQz hown (acz (Below.refl _ _) _)) ⟨W.heap.size, 0, none⟩ 1 1 [.int .i64 z] rfl
  (fun j u hu => by
   cases j with
   | succ j => simp at hu
   | zero =>
    obtain rfl : Value.int .i64 z = u := by simpa using hu
    exact (aaz hcell 0).trans rfl) (by simp [Value.oneCell']) (by unfold maxLen; omega) (by omega) (by simp; omega)
 have hgW : W.grownBy w1 v.ownBlock := (World.grownBy_alloc W _ _).trans h2
 have hat : v1.ownBlock = v.ownBlock ∨ ∃ b, v1.ownBlock = some b ∧ W.heap.size ≤ b := by
  rcases h4 with h4 | h4
  ·exact .inl h4
  ·exact .inr ⟨_, h4, by simp⟩
 exact ⟨v1, w1, hrun, Kd.R_appended h0 hr (okp := fun _ => False) (show (Kd.int .i64).M W base (fun _ => False) z [.int .i64 z] from rfl) (fun _ h => h.elim) (fun _ _ => trivial) h1 hgW hat, hgW, hat⟩
theorem R_noncells {X Y : World} {row : Option Nat} {base : Nat} {ok : Nat → Prop} {v : Value} {xs : List Int} {e : Nat} (h : (Kd.int .i64).R e X base ok v xs) (hg : X.grownBy Y row) (hr : ∀ r, row = some r → ∃ o : Obj, X.heap[r]? = some o ∧ o.isCells = false) : (Kd.int .i64).R e Y base ok v xs := by
 refine Kd.aSz (Kd.b0z (Kd.bjz h) (fun k hk => ?_)) (fun k hk => hk.1)
 obtain ⟨-, -, hlt, q, -, cells, hc⟩ := hk
 exact grownBy_keeps_cells hg hr hc rfl
theorem Fd_noncells {X Y : World} {row : Option Nat} {g : Nat} {wb p : Int} {S : Nat → Prop} (h : Fd X g wb p S) (hg : X.grownBy Y row) (hr : ∀ r, row = some r → ∃ o : Obj, X.heap[r]? = some o ∧ o.isCells = false) : Fd Y g wb p S := by
 obtain ⟨h1, h2 | ⟨h8, hp, a, b, h3, ha, hb, na, nb⟩⟩ := h
 ·exact ⟨h1, .inl ((grownBy_keeps_cells hg hr h2 rfl).trans h2)⟩
 ·exact ⟨h1, .inr ⟨h8, hp, a, b, (grownBy_keeps_cells hg hr h3 rfl).trans h3, (grownBy_keeps_cells hg hr ha rfl).trans ha, (grownBy_keeps_cells hg hr hb rfl).trans hb, na, nb⟩⟩
theorem row_atF {α : Type} {d : Kd α} {e : Nat} {W : World} {ok : Nat → Prop} {ad : Addr} {rows : List (List α)} (h : Kd.F (Kd.slice e d) W ok (some ad) rows.length rows) (k : Nat) (x : List α) (hx : rows[k]? = some x) :
  ∃ A' c', W.cell? (ad.add k) = some (.slice A' x.length c') ∧ x.length ≤ c' ∧ Kd.F d W ok A' x.length x := by
 have hlt := (List.getElem?_eq_some_iff.1 hx).1
 obtain ⟨ad', c, hA, hl, hK, hc, -⟩ := Kd.F_get h ([] : List α) (k : Int) (by omega) (by omega)
 obtain rfl : ad = ad' := Option.some.inj hA
 rw [Int.toNat_natCast, List.getD_eq_getElem?_getD, hx] at hK
 obtain ⟨A', c', rfl, hle, hF⟩ := Kd.bKz hK
 refine ⟨A', c', ?_, hle, hF⟩
 have := hc 0 _ rfl
 simpa [Kd.slice] using this
theorem c9z {P : Program} {fn : Func} {tmps : Array Value} {R : Ending → World → Prop} {n : Nat} : ∀ (Ds : List Nat) (w : World), Ds.Nodup → (∀ D, D ∈ Ds → w.heap[D]? = some (.deferred (some []))) →
  (∀ w', (∀ k, k < w.heap.size → k ∉ Ds → w'.heap[k]? = w.heap[k]?) → w'.heap.size = w.heap.size → w'.os = w.os → w'.tape = w.tape → w'.output = w.output → LeavesInM Fence.wide n P fn tmps R [] .returning w') →
  LeavesInM Fence.wide n P fn tmps R (Ds.map fun D => { target := .collected D, args := #[] }) .returning w
 | [], w, _, _, h => h w (fun _ _ _ => rfl) rfl rfl rfl rfl
 | D :: Ds, w, hn, hd, h => by
  have h1 := hd D (List.mem_cons_self ..)
  have hlt := (Array.getElem?_eq_some_iff.1 h1).1
  refine ⟨by simp, .inl ⟨D, _, rfl, run_takeDeferred h1, ?_⟩⟩
  have hn' := List.nodup_cons.1 hn
  refine c9z Ds _ hn'.2 (fun D' hD' => (World.putObj_heap_other (fun e => hn'.1 (by rw [← e]; exact hD'))).trans (hd D' (List.mem_cons_of_mem _ hD'))) (fun w' hk hs h3 h4 h5 => ?_)
  have hsz : (w.putObj D (.deferred none)).heap.size = w.heap.size := by simp [World.putObj]
  exact h w' (fun k hk1 hk2 => (hk k (by rw [hsz]; exact hk1) (fun e => hk2 (List.mem_cons_of_mem _ e))).trans (World.putObj_heap_other (fun e => hk2 (by simp [e])))) (hs.trans hsz) (h3.trans rfl) (h4.trans rfl) (h5.trans rfl)
theorem Fd.cells {W : World} {g : Nat} {wb p : Int} {S : Nat → Prop} (h : Fd W g wb p S) : ∃ cs, W.heap[g]? = some (.cells cs 165 (0, 0)) := by
 obtain ⟨-, h | ⟨-, -, a, b, h, -⟩⟩ := h
 ·exact ⟨_, h⟩
 ·exact ⟨_, h⟩
theorem Fd.grow {X Y : World} {g : Nat} {wb p : Int} {S : Nat → Prop} {row : Option Nat} (h : Fd X g wb p S) (hr : ∀ k, row = some k → S k) (hg : X.grownBy Y row) : Fd Y g wb p (fun k => S k ∨ X.heap.size ≤ k) :=
 h.more.move (fun k hk hlt => hg.block k hlt (fun e => hk (.inl (hr k e.symm))))
theorem F_block {W : World} {g c t : Nat} {cs : Array Value} {xs : List Int} (hg : W.heap[g]? = some (.cells cs t (0, 0))) (ht : 3 ≠ t) (hc : W.heap[c]? = some (.cells (nums .i64 xs).toArray 3 (0, 0))) (hl : xs.length ≤ 1000) : Kd.F (Kd.int .i64) W (NotG g) (some ⟨c, 0, none⟩) xs.length xs := by
 have hne : c ≠ g := by
  rintro rfl
  rw [hc] at hg
  injection hg with hg
  injection hg with _ hg
  exact ht hg
 intro W' hW
 have hc' := (hW c hne (awz hc)).trans hc
 refine ⟨rfl, by omega, fun _ => ⟨_, rfl, fun j x hx => ⟨[.int .i64 x], rfl, rfl, fun i' u hu => ?_⟩⟩⟩
 cases i' with
 | succ i' => simp at hu
 | zero =>
  obtain rfl : Value.int .i64 x = u := by simpa using hu
  have e : (⟨c, 0, none⟩ : Addr).add (j * (Kd.int .i64).sz + 0) = ⟨c, j, none⟩ := by
   show (⟨c, 0, none⟩ : Addr).add (j * 1 + 0) = _
   unfold Addr.add; split <;> simp_all
  rw [e, aaz hc' _]
  simp [nums, hx]
theorem Fd_keepC {X Y : World} {g : Nat} {wb p : Int} {S : Nat → Prop} (h : Fd X g wb p S) (hm : ∀ (k : Nat) (o : Obj), X.heap[k]? = some o → o.isCells = true → Y.heap[k]? = X.heap[k]?) : Fd Y g wb p S := by
 obtain ⟨h1, h2 | ⟨h8, hp, a, b, h3, ha, hb, na, nb⟩⟩ := h
 ·exact ⟨h1, .inl ((hm _ _ h2 rfl).trans h2)⟩
 ·exact ⟨h1, .inr ⟨h8, hp, a, b, (hm _ _ h3 rfl).trans h3, (hm _ _ ha rfl).trans ha, (hm _ _ hb rfl).trans hb, na, nb⟩⟩
theorem S_keepC {X Y : World} {base : Nat} {ok : Nat → Prop} {v : Value} {xs : List (List Int)} {e t : Nat} (h : Kd.S (dM e .i64) t X base ok v xs) (hm : ∀ (k : Nat) (o : Obj), X.heap[k]? = some o → o.isCells = true → Y.heap[k]? = X.heap[k]?) : Kd.S (dM e .i64) t Y base ok v xs := by
 refine Kd.bMz (Kd.S_move (Kd.bqz h) (fun k hk => ?_)) (fun k hk => hk.1)
 obtain ⟨-, -, hlt, q, -, cells, hc⟩ := hk
 exact hm _ _ hc rfl
theorem ofInt64 (a : Nat) (ha : a < 9223372036854775808) : (BitVec.ofInt 64 (a : Int)).toNat = a := by
 rw [BitVec.ofInt_natCast, BitVec.toNat_ofNat]; exact Nat.mod_eq_of_lt (by omega)
theorem i64_and1 (a : Nat) (ha : a < 9223372036854775808) : Go.bits .and .i64 (a : Int) 1 = ((a % 2 : Nat) : Int) := by
 show IntKind.i64.wrap ((BitVec.ofInt 64 (a : Int) &&& BitVec.ofInt 64 (1 : Int)).toNat : Int) = _
 rw [BitVec.toNat_and, ofInt64 a ha, show (1 : Int) = ((1 : Nat) : Int) from rfl, ofInt64 1 (by omega), Nat.and_one_is_mod, IntKind.wrap_i64]
 omega
theorem gmN_assoc {wb : Int} (hw : wb = 8 ∨ wb = 16) {a b : Nat} (ha : (a : Int) < fsize wb) (hb : (b : Int) < fsize wb) (c : Nat) : gmN wb (gmN wb a b) c = gmN wb a (gmN wb b c) := by
 rcases hw with rfl | rfl
 ·exact gf8.toGf.assoc (by simp [fsize] at ha; omega) (by simp [fsize] at hb; omega) c
 ·exact gf16.toGf.assoc (by simp [fsize] at ha; omega) (by simp [fsize] at hb; omega) c
theorem gpwN_zero (wb : Int) (a : Nat) : gpwN wb a 0 = 1 := by unfold gpwN; split <;> rfl
theorem gpwN_even {wb : Int} (hw : wb = 8 ∨ wb = 16) {a : Nat} (ha : (a : Int) < fsize wb) (n : Nat) : gpwN wb (gmN wb a a) n = gpwN wb a (2 * n) := by
 rcases hw with rfl | rfl
 ·exact gf8.toGf.gp_sq (by simp [fsize] at ha; omega) n
 ·exact gf16.toGf.gp_sq (by simp [fsize] at ha; omega) n
theorem gpwN_lt {wb : Int} (hw : wb = 8 ∨ wb = 16) {a : Nat} (ha : (a : Int) < fsize wb) (n : Nat) : (gpwN wb a n : Int) < fsize wb := by
 rcases hw with rfl | rfl
 ·have := gf8.toGf.gp_lt (a := a) (by simp [fsize] at ha; omega) n
  simp only [gpwN, fsize, if_true]; omega
 ·have := gf16.toGf.gp_lt (a := a) (by simp [fsize] at ha; omega) n
  simp only [gpwN, fsize, show ¬ ((16 : Int) = 8) by decide, if_false]; omega
theorem gpwN_odd {wb : Int} (hw : wb = 8 ∨ wb = 16) {a : Nat} (ha : (a : Int) < fsize wb) (n : Nat) : gmN wb a (gpwN wb (gmN wb a a) n) = gpwN wb a (2 * n + 1) := by
 rw [gpwN_even hw ha]
 rcases hw with rfl | rfl
 ·exact gf8.toGf.comm (by simp [fsize] at ha; omega) (gf8.toGf.gp_lt (by simp [fsize] at ha; omega) _)
 ·exact gf16.toGf.comm (by simp [fsize] at ha; omega) (gf16.toGf.gp_lt (by simp [fsize] at ha; omega) _)
theorem gmN_one {wb : Int} (hw : wb = 8 ∨ wb = 16) {a : Nat} (ha : (a : Int) < fsize wb) : gmN wb 1 a = a := by
 rcases hw with rfl | rfl
 ·exact gf8.toGf.bZz (by simp [fsize] at ha; omega)
 ·exact gf16.toGf.bZz (by simp [fsize] at ha; omega)
theorem gmul_in {wb a b : Int} (ha : 0 ≤ a) (ha' : a < fsize wb) (hb : 0 ≤ b) (hb' : b < fsize wb) : gmul wb a b = (gmN wb a.toNat b.toNat : Int) := by
 unfold gmul
 rw [if_pos (by simp [inF]; omega)]
theorem gpow_out {wb a n : Int} (h : (inF wb a && decide (0 ≤ n)) = false) : gpow wb a n = 0 := by simp [gpow, h]
def PowRel (wb : Int) (R : Nat) (o x : Int) (m : Nat) : Prop := 0 ≤ o ∧ o < fsize wb ∧ 0 ≤ x ∧ x < fsize wb ∧ gmN wb o.toNat (gpwN wb x.toNat m) = R
theorem PowRel.even {wb : Int} (hw : wb = 8 ∨ wb = 16) {R : Nat} {o x : Int} {m : Nat} (h : PowRel wb R o x m) (he : m % 2 = 0) : PowRel wb R o (gmul wb x x) (m / 2) := by
 obtain ⟨h1, h2, h3, h4, h5⟩ := h
 have hr := bdz hw x x
 refine ⟨h1, h2, hr.1, hr.2, ?_⟩
 rw [gmul_in h3 h4 h3 h4, Int.toNat_natCast, gpwN_even hw (by omega), show 2 * (m / 2) = m by omega]
 exact h5
theorem PowRel.odd {wb : Int} (hw : wb = 8 ∨ wb = 16) {R : Nat} {o x : Int} {m : Nat} (h : PowRel wb R o x m) (he : m % 2 = 1) : PowRel wb R (gmul wb o x) (gmul wb x x) (m / 2) := by
 obtain ⟨h1, h2, h3, h4, h5⟩ := h
 have hr := bdz hw x x
 have hr' := bdz hw o x
 refine ⟨hr'.1, hr'.2, hr.1, hr.2, ?_⟩
 rw [gmul_in h1 h2 h3 h4, gmul_in h3 h4 h3 h4, Int.toNat_natCast, Int.toNat_natCast, gmN_assoc hw (by omega) (by omega), gpwN_odd hw (by omega), show 2 * (m / 2) + 1 = m by omega]
 exact h5
theorem PowRel.done {wb : Int} (hw : wb = 8 ∨ wb = 16) {R : Nat} {o x : Int} (h : PowRel wb R o x 0) : o = (R : Int) := by
 obtain ⟨h1, h2, h3, h4, h5⟩ := h
 rw [gpwN_zero] at h5
 have : gmN wb o.toNat 1 = o.toNat := by
  rcases hw with rfl | rfl
  ·exact gf8.toGf.one_right (by simp [fsize] at h2; omega)
  ·exact gf16.toGf.one_right (by simp [fsize] at h2; omega)
 omega
theorem PowRel.start {wb : Int} (hw : wb = 8 ∨ wb = 16) {a : Int} {n : Nat} (ha : 0 ≤ a) (ha' : a < fsize wb) : PowRel wb (gpwN wb a.toNat n) 1 a n :=
 ⟨by omega, by rcases hw with rfl | rfl <;> decide, ha, ha', gmN_one hw (gpwN_lt hw (by omega) _)⟩
set_option maxRecDepth 100000 in
set_option maxHeartbeats 1600000 in
theorem gf_Pow.calls (g : Nat) (S : Nat → Prop) (wb a : Int) (n : Nat) (W : World) (hn : n ≤ 1000000) (hw : wb = 8 ∨ wb = 16) (hF : Fd W g wb (fpoly wb) S) (hS : ∀ k, S k → k < W.heap.size) :
  Calls Tryz.prog 112 #[.pointer (some ⟨g, 0, none⟩), .int .i64 a, .int .i64 (n : Int)] W fun e w' => e = .returned (.int .i64 (gpow wb a n)) ∧ Fd w' g wb (fpoly wb) S ∧ BB W w' g := by
 have HC := Aside0.mk (gf_in.calls g wb (fpoly wb) S (some ⟨W.heap.size, 0, none⟩) 1 [a] _ (hF.alloc (.cells #[.int .i64 a] 3)) hw (C_nums (t := 3) (heap_alloc_new _ _) (by simp)) (by simp))
 rw [allIn_one] at HC
 have HF := Aside0.mk (hF.alloc (.cells #[.int .i64 a] 3))
 have HB := Aside0.mk ((BB.refl W g).alloc (.cells #[.int .i64 a] 3))
 have HS := Aside0.mk hS
 have HW := Aside0.mk hw
 clear hF hS hw
 have n0 : (0 : Int) ≤ (n : Int) := by omega
 have n1 : decide ((n : Int) < 0) = false := decide_eq_false (by omega)
 by_cases hin : inF wb a = true
 ·have hg : gpow wb a n = ((gpwN wb a.toNat n : Nat) : Int) := by simp [gpow, hin]
  have hr : 0 ≤ a ∧ a < fsize wb := by simpa [inF] using hin
  rw [hin] at HC
  rw [hg]
  have HR := Aside0.mk (PowRel.start (n := n) HW.out hr.1 hr.2)
  generalize gpwN wb a.toNat n = R at HR
  clear hin hg hr
  go_enter Tryz.func112, Tryz.ntmps112
  go_wp2_with (first | (go_at_call 141; refine HC.out.mono ?_; rintro e w9 ⟨rfl, m9, rfl⟩))
  go_loopw [7, 1, 2] (fun o x m wr => ∃ (o1 x1 : Int) (m1 : Nat), o = .int .i64 o1 ∧ x = .int .i64 x1 ∧ m = .int .i64 (m1 : Int) ∧ m1 ≤ 1000000 ∧ Aside0 (PowRel wb R o1 x1 m1) ∧ Aside0 (Fd wr g wb (fpoly wb) S) ∧ Aside0 (BB W wr g)) (fun _ _ m _ => (intOf m).toNat)
  case atStart => exact ⟨1, a, n, rfl, rfl, rfl, hn, HR, ⟨HF.out.drewN _⟩, ⟨HB.out.drewN _⟩⟩
  clear HR HF HB HC n0 n1 hn
  obtain ⟨o1, x1, m1, rfl, rfl, rfl, hm, HR, HF, HB⟩ := hrel
  by_cases hpos : 0 < m1
  ·have p0 : (0 : Int) < (m1 : Int) := by omega
   have HM := Aside0.mk <| fun (y : Int) (wq : World) (hq : Fd wq g wb (fpoly wb) S) (hb : BB W wq g) => bxz.calls g S wb y x1 wq HW.out hq (fun k hk => Nat.lt_of_lt_of_le (HS.out k hk) hb.size)
   by_cases hodd : m1 % 2 = 1
   ·have HR1 := Aside0.mk (HR.out.odd HW.out hodd)
    have hand : (Go.bits .and .i64 (m1 : Int) 1 == 1) = true := by rw [i64_and1 m1 (by omega), hodd]; rfl
    clear hodd
    go_wp2_with (first | (go_at_call 95; refine (HM.out _ _ (by first | exact HF.out | exact q1) (by first | exact HB.out | exact HB.out.trans q2)).mono ?_; rintro e w3 ⟨rfl, q1, q2⟩))
    exact ⟨⟨_, _, m1 / 2, rfl, rfl, by rw [show ((m1 / 2 : Nat) : Int) = (m1 : Int) / 2 by omega], by omega, HR1, ⟨q1⟩, ⟨(HB.out.trans ‹BB wr _ g›).trans q2⟩⟩, by simp [intOf]; omega⟩
   ·have HR1 := Aside0.mk (HR.out.even HW.out (by omega))
    have hand : (Go.bits .and .i64 (m1 : Int) 1 == 1) = false := by rw [i64_and1 m1 (by omega), show m1 % 2 = 0 by omega]; rfl
    clear hodd
    go_wp2_with (first | (go_at_call 95; refine (HM.out _ _ (by first | exact HF.out | exact HF.out.drewN _) (by first | exact HB.out | exact HB.out.drewN _)).mono ?_; rintro e w3 ⟨rfl, q1, q2⟩))
    exact ⟨⟨_, _, m1 / 2, rfl, rfl, by rw [show ((m1 / 2 : Nat) : Int) = (m1 : Int) / 2 by omega], by omega, HR1, ⟨q1⟩, ⟨HB.out.trans q2⟩⟩, by simp [intOf]; omega⟩
  ·obtain rfl : m1 = 0 := by omega
   obtain rfl := HR.out.done HW.out
   go_wp2
   go_ret
   exact ⟨rfl, HF.out, HB.out⟩
 ·have hin' : inF wb a = false := by simpa using hin
  rw [hin'] at HC
  rw [gpow_out (by simp [hin'])]
  clear hin hin'
  go_enter Tryz.func112, Tryz.ntmps112
  go_wp2_with (first | (go_at_call 141; refine HC.out.mono ?_; rintro e w9 ⟨rfl, m9, rfl⟩))
  go_ret
  exact ⟨rfl, HF.out.drewN _, HB.out.drewN _⟩
set_option maxRecDepth 100000 in
set_option maxHeartbeats 1600000 in
theorem gf_Inv.calls (g : Nat) (S : Nat → Prop) (wb a : Int) (W : World) (hw : wb = 8 ∨ wb = 16) (hF : Fd W g wb (fpoly wb) S) (hS : ∀ k, S k → k < W.heap.size) :
  Calls Tryz.prog 104 #[.pointer (some ⟨g, 0, none⟩), .int .i64 a] W fun e w' => e = .returned (.tuple #[.int .i64 (ginv wb a), .bool (inF wb a && a != 0)]) ∧ Fd w' g wb (fpoly wb) S ∧ BB W w' g := by
 have HC := Aside0.mk (gf_in.calls g wb (fpoly wb) S (some ⟨W.heap.size, 0, none⟩) 1 [a] _ (hF.alloc (.cells #[.int .i64 a] 3)) hw (C_nums (t := 3) (heap_alloc_new _ _) (by simp)) (by simp))
 rw [allIn_one] at HC
 have HF := Aside0.mk (hF.alloc (.cells #[.int .i64 a] 3))
 have HB := Aside0.mk ((BB.refl W g).alloc (.cells #[.int .i64 a] 3))
 have HS := Aside0.mk (show ∀ k, S k → k < (W.alloc (.cells #[.int .i64 a] 3)).heap.size from fun k hk => by have := hS k hk; simp; omega)
 have HW := Aside0.mk hw
 have HSZ : ∃ n : Nat, fsize wb = ((n : Nat) : Int) + 2 ∧ n ≤ 1000000 := by rcases hw with rfl | rfl; exact ⟨254, rfl, by omega⟩; exact ⟨65534, rfl, by omega⟩
 obtain ⟨n, hz, hn⟩ := HSZ
 clear hF hS hw
 by_cases hin : inF wb a = true
 ·by_cases h0 : a = 0
  ·subst h0
   rw [hin] at HC
   have e1 : ginv wb 0 = 0 := by simp [ginv]
   have e2 : (inF wb 0 && (0 : Int) != 0) = false := by simp
   rw [e1, e2]
   clear hin hz e1 e2
   go_enter Tryz.func104, Tryz.ntmps104
   go_wp2_with (first | (go_at_call 141; refine HC.out.mono ?_; rintro e w9 ⟨rfl, m9, rfl⟩))
   go_ret2
   exact ⟨rfl, HF.out.drewN _, HB.out.drewN _⟩
  ·rw [hin] at HC
   have e1 : ginv wb a = gpow wb a n := by
    have : (a != 0) = true := by simpa using h0
    simp only [ginv, hin, this, Bool.and_self, if_true]
    rw [hz, Int.add_sub_cancel]
   have e2 : (inF wb a && a != 0) = true := by simp [hin, h0]
   rw [e1, e2]
   have z1 : (a == 0) = false := beq_eq_false_iff_ne.2 h0
   have hs : IntKind.i64.wrap (fsize wb - 2) = (n : Int) := by rw [hz, IntKind.wrap_i64]; omega
   have hs' : wrap64 (fsize wb - 2) = (n : Int) := by rw [hz]; unfold wrap64; omega
   clear hin hz e1 e2 h0
   go_enter Tryz.func104, Tryz.ntmps104
   go_wp2_with (first | (go_at_call 141; refine HC.out.mono ?_; rintro e w9 ⟨rfl, m9, rfl⟩) | (go_at_call 140; refine (cXz.calls g wb (fpoly wb) S _ (HF.out.drewN _) HW.out).mono ?_; rintro e w9 ⟨rfl, m8, rfl⟩) | (go_at_call 112; refine (gf_Pow.calls g S wb a n _ hn HW.out (HF.out.drewN _) HS.out).mono ?_; rintro e w9 ⟨rfl, q1, q2⟩))
   go_ret2
   exact ⟨rfl, q1, (HB.out.drewN _).trans q2⟩
 ·have hin' : inF wb a = false := by simpa using hin
  rw [hin'] at HC
  have e1 : ginv wb a = 0 := by simp [ginv, hin']
  rw [e1]
  have e2 : (false && a != 0) = false := rfl
  rw [hin', e2]
  clear hin hin' hz e1 e2
  go_enter Tryz.func104, Tryz.ntmps104
  go_wp2_with (first | (go_at_call 141; refine HC.out.mono ?_; rintro e w9 ⟨rfl, m9, rfl⟩))
  go_ret2
  exact ⟨rfl, HF.out.drewN _, HB.out.drewN _⟩
end Go.Proofs.YtelcllhibpnneaaGreat.XCo
end
section
namespace Go.Proofs.YtelcllhibpnneaaGreat.XCo
open Go.RowKit Go.Proofs.YtelcllhibpnneaaGreatW.PrintWords Go.Proofs.YtelcllhibpnneaaGreatW.PrintLast Go.Proofs.YtelcllhibpnneaaGreatW.PrintMore
attribute [local go_sem] aGz aHz aMz aNz aCz aDz aIz aJz
set_option linter.unusedVariables false
set_option linter.unusedSimpArgs false
open Go.Maps Go.WideMaps
def MapSet (w : World) (B : Nat) (l : List Int) : Prop :=
 ∃ D : DataW Unit, w.ownsMap Tryz.prog 3 (plainElem Tryz.prog 4) B l.length D ∧ Maps.IsMap D ∧
  ∀ x : Int, D.atKey (.int .i64 x) (.lit (.bool false)) = .lit (.bool (decide (x ∈ l)))
theorem lawI : Keyed Tryz.prog 3 := int_keyed Tryz.underlying3
theorem zeroB (w : World) : (zeroValue 4).run Tryz.prog w = .ok (.bool false) w := by kernel_rfl
theorem MapSet.made (w : World) : MapSet (w.alloc (.map #[] 0)) w.heap.size [] :=
 ⟨.map [], World.ownsMap_made w Tryz.prog 3 _, Maps.isMap_empty, fun s => rfl⟩
theorem MapSet.put {w : World} {B : Nat} {l : List Int} {D : DataW Unit} {x : Int} (hm : Maps.IsMap D) (hd : ∀ s : Int, D.atKey (.int .i64 s) (.lit (.bool false)) = .lit (.bool (decide (s ∈ l))))
  (h : w.ownsMap Tryz.prog 3 (plainElem Tryz.prog 4) B (l.length + 1) (D.put (.int .i64 x) (.lit (.bool true)))) : MapSet w B (l ++ [x]) := by
 refine ⟨_, by simpa using h, hm.put _ _, fun s => ?_⟩
 by_cases hx : x = s
 ·subst hx
  rw [Maps.atKey_put_same hm (by trivial)]
  simp
 ·rw [Maps.atKey_put_other (fun h => hx (by injection h with _ h; exact h.symm)), hd s]
  simp [Ne.symm hx]
theorem MapSet.look {w : World} {B : Nat} {l : List Int} (h : MapSet w B l) {x : Int} (hw : (Lit.int .i64 x).wf = true) (hx : x ∉ l) : (Instr.lookup 188 (.map (some B)) (.int .i64 x) false).run Tryz.prog w = .ok (.bool false) w := by
 obtain ⟨D, ho, hm, hd⟩ := h
 obtain ⟨v, ps, hrun, hv⟩ := ho.lookup lawI Tryz.underlying188 (zeroB w) (plainElem_bool Tryz.underlying4 false) (keyOf_int_mk Tryz.underlying3 hw)
 rw [hd x, decide_eq_false hx] at hv
 rw [hrun]
 unfold plainElem at hv
 rw [show Tryz.prog.underlying 4 = some .bool from Tryz.underlying4] at hv
 cases v <;> simp at hv
 rw [hv.1]
theorem MapSet.grow {w w1 : World} {B : Nat} {l : List Int} {row : Option Nat} (h : MapSet w B l) (hg : w.grownBy w1 row) (hne : some B ≠ row) : MapSet w1 B l := by
 obtain ⟨D, ho, r⟩ := h
 exact ⟨D, ho.kept hg hne, r⟩
theorem grown_of_b {w w1 : World} (h : Below w.heap.size w w1) : w.grownBy w1 none := ⟨h.os, h.tape, h.output, h.size, fun k hk _ => h.block k hk⟩
theorem MapSet.below {w w1 : World} {B : Nat} {l : List Int} (h : MapSet w B l) (hb : Below w.heap.size w w1) : MapSet w1 B l := h.grow (grown_of_b hb) (by simp)
theorem MapSet.noncells {w : World} {B : Nat} {l : List Int} (h : MapSet w B l) : ∃ o : Obj, w.heap[B]? = some o ∧ o.isCells = false := by
 obtain ⟨D, ⟨es, clock, hb, -⟩, -⟩ := h
 exact ⟨_, hb, rfl⟩
end Go.Proofs.YtelcllhibpnneaaGreat.XCo
end
