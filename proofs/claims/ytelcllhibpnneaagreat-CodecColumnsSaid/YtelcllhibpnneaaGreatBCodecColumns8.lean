-- Joined by this work's own program (wip/tools/bundle.py) out of its texts: what this claim uses of them. Not trusted: Lean checks it.
import Derived.WalkSpells
import Derived.Deep.DeepMust
import Derived.RangeFuncNested
import Derived.RangeFuncBound
import Derived.RangeFuncCalls
import Derived.RangeFuncLeaves
import Derived.Laws.BitsAllLaws
import Derived.Maps.OwnSet
import Derived.Maps.Views
import Derived.RangeFuncOwn
import Derived.Test.YtelcllhibpnneaaGreatBCodecColumns7
section
namespace Go.Proofs.YtelcllhibpnneaaGreat.XCo
open Go.RowKit Go.Proofs.YtelcllhibpnneaaGreatW.PrintWords Go.Proofs.YtelcllhibpnneaaGreatW.PrintLast Go.Proofs.YtelcllhibpnneaaGreatW.PrintMore
attribute [local go_sem] max2_int min2_int max_two min_two max_three min_three max_four min_four
set_option linter.unusedVariables false
set_option linter.unusedSimpArgs false
theorem addr_zero (ad : Addr) : ad.add 0 = ad := by unfold Addr.add; split <;> simp_all
structure MayOk (wb : Int) (rows : List (List Int)) (cols : Nat) : Prop where
 n1 : 1 ≤ rows.length
 n2 : rows.length ≤ 20
 c1 : 1 ≤ cols
 c2 : cols ≤ 20
 each : ∀ row, row ∈ rows → row.length = cols ∧ ∀ x, x ∈ row → 0 ≤ x ∧ x < fsize wb
set_option maxRecDepth 100000 in
set_option maxHeartbeats 1600000 in
theorem may11.calls (g fb : Nat) (S : Nat → Prop) (wb p x : Int) (W : World) (hw : wb = 8 ∨ wb = 16) (hF : Fd W g wb p S) (hb : W.cell? ⟨fb, 0, none⟩ = some (.pointer (some ⟨g, 0, none⟩))) (hx : 0 ≤ x ∧ x < fsize wb) :
  Calls Tryz.prog 162 #[.int .i64 x, .pointer (some ⟨fb, 0, none⟩)] W fun e w' => e = .returned (.bool false) ∧ Drawn0 W w' := by
 have HF := Aside0.mk hF
 have HW := Aside0.mk hw
 have h1 : decide (x < 0) = false := decide_eq_false (by omega)
 have h2 : decide (fsize wb ≤ x) = false := decide_eq_false (by omega)
 clear hF hw hx
 go_enter Tryz.func162, Tryz.ntmps162
 go_wp2_with (first | (go_at_call 140; refine (gf_Size.calls g wb p S _ HF.out HW.out).mono ?_; rintro e w9 ⟨rfl, m9, rfl⟩))
 go_ret
 exact ⟨rfl, by repeat (first | exact Drawn0.refl _ | apply Drawn0.step)⟩
set_option maxRecDepth 100000 in
set_option maxHeartbeats 1600000 in
theorem may1.calls (g fb ab : Nat) (S : Nat → Prop) (wb p : Int) (A A0 A' : Option Addr) (n0 c0 c' : Nat) (cols : Nat) (rows : List (List Int)) (x : List Int) (W : World) (hw : wb = 8 ∨ wb = 16) (hM : MayOk wb rows cols) (hF : Fd W g wb p S) (hb : W.cell? ⟨fb, 0, none⟩ = some (.pointer (some ⟨g, 0, none⟩)))
  (ha : W.cell? ⟨ab, 0, none⟩ = some (.slice A rows.length c0)) (hC : Kd.C (Kd.slice 3 (Kd.int .i64)) W A rows.length rows) (hx : x ∈ rows) (hX : Kd.C (Kd.int .i64) W A' x.length x) :
  Calls Tryz.prog 160 #[.slice A' x.length c', .pointer (some ⟨ab, 0, none⟩), .pointer (some ⟨fb, 0, none⟩)] W fun e w' => e = .returned (.bool false) ∧ Drawn0 W w' := by
 obtain ⟨r0, hr0⟩ : ∃ r, rows[0]? = some r := ⟨_, List.getElem?_eq_getElem (by have := hM.n1; omega)⟩
 obtain ⟨ad, A1, c1, rfl, hcell, hle, hC0⟩ := row_at hC 0 r0 hr0
 have l0 := (hM.each r0 (List.mem_of_getElem? hr0)).1
 have lx := (hM.each x hx).1
 have hc2 := hM.c2
 have HC := Aside0.mk (con_May11.calls (fun _ => false) (.pointer (some ⟨fb, 0, none⟩)) A' c' x W hX (by omega) (fun m y hy => may11.calls g fb S wb p y _ hw (hF.drewN m) hb ((hM.each x hx).2 y hy)))
 have hany : x.any (fun _ => false) = false := by simp
 rw [hany] at HC
 rw [l0] at hcell
 rw [lx] at HC
 rw [lx]
 have n1 : (0 : Int) < (rows.length : Int) := by have := hM.n1; omega
 have hcell' : W.cell? ad = some (.slice A1 cols c1) := by rwa [addr_zero] at hcell
 have hself : ((cols : Int) != (cols : Int)) = false := by simp
 have hmf : ∀ (fn : Fn) (first cap : Array Value) (w : World), (Instr.makeFunc fn first cap).run Tryz.prog w = .ok (.func fn first cap) w := fun _ _ _ _ => rfl
 generalize rows.length = nr at ha n1
 clear hM hF hC hx hX hr0 hC0 l0 lx hc2 hany hle hcell
 go_enter Tryz.func160, Tryz.ntmps160
 go_wp2_with (first | (go_at_call 161; refine HC.out.mono ?_; rintro e w9 ⟨rfl, m9, rfl⟩))
 go_ret
 exact ⟨rfl, by repeat (first | exact Drawn0.refl _ | apply Drawn0.step)⟩
set_option maxRecDepth 100000 in
set_option maxHeartbeats 1600000 in
theorem matrix_May.ok (g : Nat) (S : Nat → Prop) (wb p : Int) (A : Option Addr) (c cols : Nat) (rows : List (List Int)) (W : World) (hw : wb = 8 ∨ wb = 16) (hM : MayOk wb rows cols) (hF : Fd W g wb p S) (hC : Kd.C (Kd.slice 3 (Kd.int .i64)) W A rows.length rows) :
  Calls Tryz.prog 128 #[.pointer (some ⟨g, 0, none⟩), .slice A rows.length c] W fun e w' => e = .returned (.bool true) ∧ Below W.heap.size W w' := by
 have hb1 : Below W.heap.size W ((W.alloc (.cells #[.pointer (some ⟨g, 0, none⟩)] 64)).alloc (.cells #[.slice A rows.length c] 61)) := below_alloc (below_alloc (Below.refl _ _) _) _
 have hF1 := hF.below hb1
 have hC1 := Kd.C_below hC hb1
 have hc1 : ((W.alloc (.cells #[.pointer (some ⟨g, 0, none⟩)] 64)).alloc (.cells #[.slice A rows.length c] 61)).cell? ⟨W.heap.size, 0, none⟩ = some (.pointer (some ⟨g, 0, none⟩)) := (blk_cell (blk_alloc (blk_new W _) _) 0).trans rfl
 have hc2 : ((W.alloc (.cells #[.pointer (some ⟨g, 0, none⟩)] 64)).alloc (.cells #[.slice A rows.length c] 61)).cell? ⟨W.heap.size + 1, 0, none⟩ = some (.slice A rows.length c) := (blk_cell (blk_new_at _ _ _ (by simp)) 0).trans rfl
 have hany : rows.any (fun _ => false) = false := by simp
 have HC := Aside0.mk (fun (m0 : Nat) => con_May1.calls (fun _ => false) (.pointer (some ⟨W.heap.size + 1, 0, none⟩)) (.pointer (some ⟨W.heap.size, 0, none⟩)) A c rows _ (Kd.C_drewN hC1 m0) (by have := hM.n2; omega) (fun m x A' c' hx hxc hX => may1.calls g W.heap.size (W.heap.size + 1) S wb p A A A' rows.length c c' cols rows x _ hw hM ((hF1.drewN m0).drewN m) hc1 hc2 (Kd.C_drewN (Kd.C_drewN hC1 m0) m) hx (Kd.C_drewN hX m)))
 rw [hany] at HC
 obtain ⟨r0, hr0⟩ : ∃ r, rows[0]? = some r := ⟨_, List.getElem?_eq_getElem (by have := hM.n1; omega)⟩
 obtain ⟨ad, A1, c1, rfl, hcell, hle, hC0⟩ := row_at hC 0 r0 hr0
 have l0 := (hM.each r0 (List.mem_of_getElem? hr0)).1
 rw [l0] at hcell
 have hcell' : W.cell? ad = some (.slice A1 cols c1) := by rwa [addr_zero] at hcell
 have hcell2 := pw_cell_below hb1 hcell'
 have hw1 : matrix_within.f (rows.length : Int) = some true := by unfold matrix_within.f; rw [if_pos (by have := hM.n1; omega), decide_eq_true (by have := hM.n2; omega)]
 have hw2 : matrix_within.f (cols : Int) = some true := by unfold matrix_within.f; rw [if_pos (by have := hM.c1; omega), decide_eq_true (by have := hM.c2; omega)]
 have n1 : (0 : Int) < (rows.length : Int) := by have := hM.n1; omega
 have hmf : ∀ (fn : Fn) (first cap : Array Value) (w : World), (Instr.makeFunc fn first cap).run Tryz.prog w = .ok (.func fn first cap) w := fun _ _ _ _ => rfl
 have HB := Aside0.mk hb1
 have H1 := Aside0.mk hw1
 have H2 := Aside0.mk hw2
 generalize rows.length = nr at *
 clear hM hF hC hF1 hC1 hr0 hC0 l0 hany hle hcell hcell' hw1 hw2 hb1
 go_enter Tryz.func128, Tryz.ntmps128
 go_wp2_with (first | (go_at_call_of 129 (Value.int .i64 (nr : Int)); refine (matrix_within.calls _ _ _ H1.out).mono ?_; rintro e w9 ⟨rfl, m9, rfl⟩) | (go_at_call 129; refine (matrix_within.calls _ _ _ H2.out).mono ?_; rintro e w9 ⟨rfl, m8, rfl⟩) | (go_at_call 159; refine (HC.out _).mono ?_; rintro e w9 ⟨rfl, m7, rfl⟩))
 go_ret
 exact ⟨rfl, by repeat (first | exact HB.out | apply pw_below_drewN)⟩
end Go.Proofs.YtelcllhibpnneaaGreat.XCo
end
section
namespace Go.Proofs.YtelcllhibpnneaaGreat.XCo
open Go.RowKit Go.Proofs.YtelcllhibpnneaaGreatW.PrintWords Go.Proofs.YtelcllhibpnneaaGreatW.PrintLast Go.Proofs.YtelcllhibpnneaaGreatW.PrintMore
attribute [local go_sem] max2_int min2_int max_two min_two max_three min_three max_four min_four
set_option linter.unusedVariables false
set_option linter.unusedSimpArgs false
theorem reads_C {k : IntKind} {W : World} {A : Option Addr} {l : List Int} (h : Kd.C (Kd.int k) W A l.length l) : ReadsInt W k A l.length l := by
 refine ⟨rfl, h.2.1, fun hn => ?_⟩
 obtain ⟨ad, hA, _⟩ := h.2.2 hn
 refine ⟨ad, hA, fun j hj => ?_⟩
 obtain ⟨ad', hA', hc⟩ := int_at h j l[j] (List.getElem?_eq_getElem hj)
 rw [hA] at hA'
 cases hA'
 rw [hc, List.getD_eq_getElem?_getD, List.getElem?_eq_getElem hj]
 rfl
theorem R_own_ints {k : IntKind} {e : Nat} {W : World} {base : Nat} {v : Value} {xs : List Int} (h : W.ownsRow base e 1 v xs.length (nums k xs)) : Kd.R (Kd.int k) e W base (fun _ => True) v xs :=
 ⟨fun _ _ => trivial, nums k xs, h, by rw [nums_length]; exact (Nat.mul_one _).symm, fun j p hj => by
  obtain ⟨hlt, rfl⟩ := List.getElem?_eq_some_iff.1 hj
  show ((nums k xs).drop (j * 1)).take 1 = [Value.int k xs[j]]
  rw [Nat.mul_one, List.drop_eq_getElem_cons (by simp [nums]; exact hlt)]
  simp [nums]⟩
theorem A_none {α : Type} {d : Kd α} {W : World} {n : Nat} {xs : List α} (h : Kd.C d W none n xs) : n = 0 := by
 rcases Nat.eq_zero_or_pos n with h0 | h0
 ·exact h0
 ·obtain ⟨ad, e, _⟩ := h.2.2 h0
  cases e
set_option maxRecDepth 100000 in
set_option maxHeartbeats 1600000 in
theorem clone_i.calls (A : Option Addr) (c : Nat) (l : List Int) (W : World) (hC : Kd.C (Kd.int .i64) W A l.length l) (hl : l.length ≤ 1000000) :
  Calls Tryz.prog 131 #[.slice A l.length c] W fun e w' => ∃ v, e = .returned v ∧ Kd.R (Kd.int .i64) 3 w' W.heap.size (fun _ => True) v l ∧ Below W.heap.size W w' := by
 cases A with
 | none =>
  obtain rfl : l = [] := List.eq_nil_of_length_eq_zero (A_none hC)
  have hnil := fun (w : World) => Lib.run_eql_slice_nil (P := Tryz.prog) w 66 3 none 0 c 0 0 Tryz.underlying66
  go_enter Tryz.func131, Tryz.ntmps131
  go_wp2
  go_ret
  exact ⟨_, rfl, Kd.R_nil _ _ _ _ _, Below.refl _ _⟩
 | some ad =>
  have HR := Aside0.mk (reads_C hC)
  clear hC
  have hnil := fun (w : World) => Lib.run_eql_slice_nil (P := Tryz.prog) w 66 3 (some ad) l.length c 0 0 Tryz.underlying66
  have HO := Aside0.mk (World.ownsRow_lit (base := W.heap.size) (e := 3) (size := 1) W #[] 0 (Nat.le_refl _) (by decide) rfl)
  have HB := Aside0.mk (below_alloc (Below.refl W.heap.size W) (.cells #[] 3))
  go_enter Tryz.func131, Tryz.ntmps131
  go_wp2_with ((with_reducible refine gate_builtin (b := .append) (xs := #[.tmp 5, .tmp 6]) rfl ?_); at_builtin; refine print_append_row (w0 := W) W.heap.size rfl (.tmp 5) (.tmp 6) 66 3 .i64 8 rfl Tryz.underlying66 (by kernel_rfl) (by decide) _ [] l (some ad) l.length c rfl rfl ?aO ?aR ?aB ?aS ?aL ?_; (case aO => exact HO.out); (case aR => exact HR.out.below (below_alloc (Below.refl _ _) _)); (case aB => exact HB.out); (case aS => simp); (case aL => simp; omega); intro v1 w1 ho1 hb1 hg1 hat1; have HO1 := Aside0.mk ho1; have HB1 := Aside0.mk hb1; clear ho1 hb1 hg1 hat1)
  go_ret
  exact ⟨_, rfl, R_own_ints HO1.out, HB1.out⟩
theorem own_cut0 {W : World} {base e size g n c : Nat} {xs : List Value} (h : W.ownsRow base e size (.slice (some ⟨g, 0, none⟩) n c) n xs) : W.ownsRow base e size (.slice (some ⟨g, 0, none⟩) 0 c) 0 [] := by
 obtain ⟨h1, h2 | ⟨g', cap, cur, he, hb, hh, h3, h4, h5, h6⟩⟩ := h
 ·cases h2.1
 ·injection he with e1 e2 e3
  injection e1 with e1
  injection e1 with e1
  subst e1
  subst e3
  exact ⟨by simp, .inr ⟨g, c, cur, rfl, hb, hh, Nat.zero_le _, h4, h5, by simp⟩⟩
set_option maxRecDepth 100000 in
set_option maxHeartbeats 1600000 in
theorem grow_i.calls (n : Nat) (W : World) (hn : n ≤ 1000000) :
  Calls Tryz.prog 171 #[.slice none 0 0, .int .i64 (n : Int)] W fun e w' => ∃ v, e = .returned v ∧ w'.ownsRow W.heap.size 3 1 v 0 [] ∧ Below W.heap.size W w' := by
 have n0 : decide ((n : Int) < 0) = false := decide_eq_false (by omega)
 by_cases h0 : n = 0
 ·subst h0
  go_enter Tryz.func171, Tryz.ntmps171
  go_wp2
  go_ret
  exact ⟨_, rfl, own_nil _ _ _ _, Below.refl _ _⟩
 ·have p0 : (0 : Int) < (n : Int) := by omega
  have p1 : ¬ ((n : Int) < 0) := by omega
  have HB := Aside0.mk (Below.refl W.heap.size W)
  go_enter Tryz.func171, Tryz.ntmps171
  go_wp2_with ((with_reducible refine gate_builtin (b := .append) (xs := #[.tmp 20, .tmp 21]) rfl ?_); at_builtin; refine Kd.R_append_zeros (Kd.int .i64) (w0 := W) W.heap.size rfl (.tmp 20) (.tmp 21) 66 3 3 (.int .i64 0) 8 rfl Tryz.underlying66 Tryz.underlying3 (by kernel_rfl) rfl (by decide) (by decide) _ [] 0 (n : Int) (fun _ => True) rfl rfl ?aZ (fun _ _ => trivial) (Kd.R_nil _ _ _ _ _) ?a0 HB.out (Nat.le_refl _) ?aL ?_; (case aZ => exact rfl); (case a0 => omega); (case aL => simp; omega); intro v1 w1 ho1 hb1 hg1 hat1; obtain ⟨g, cc, rfl, -, -, -⟩ := Kd.R_form ho1 (by simp; omega); obtain ⟨inner, hown⟩ := Kd.R_own ho1; have HO1 := Aside0.mk (own_cut0 hown); have HB1 := Aside0.mk hb1; have hcc : 0 ≤ cc := Nat.zero_le _; clear ho1 hb1 hg1 hat1 hown)
  go_ret
  exact ⟨_, rfl, HO1.out, HB1.out⟩
set_option maxRecDepth 100000 in
set_option maxHeartbeats 1600000 in
theorem grow_b.calls (n : Nat) (W : World) (hn : n ≤ 1000000) :
  Calls Tryz.prog 101 #[.slice none 0 0, .int .i64 (n : Int)] W fun e w' => ∃ v, e = .returned v ∧ w'.ownsRow W.heap.size 5 1 v 0 [] ∧ Below W.heap.size W w' := by
 have n0 : decide ((n : Int) < 0) = false := decide_eq_false (by omega)
 by_cases h0 : n = 0
 ·subst h0
  go_enter Tryz.func101, Tryz.ntmps101
  go_wp2
  go_ret
  exact ⟨_, rfl, own_nil _ _ _ _, Below.refl _ _⟩
 ·have p0 : (0 : Int) < (n : Int) := by omega
  have p1 : ¬ ((n : Int) < 0) := by omega
  have HB := Aside0.mk (Below.refl W.heap.size W)
  go_enter Tryz.func101, Tryz.ntmps101
  go_wp2_with ((with_reducible refine gate_builtin (b := .append) (xs := #[.tmp 20, .tmp 21]) rfl ?_); at_builtin; refine Kd.R_append_zeros (Kd.int .u8) (w0 := W) W.heap.size rfl (.tmp 20) (.tmp 21) 34 3 5 (.int .u8 0) 1 rfl Tryz.underlying34 Tryz.underlying3 (by kernel_rfl) rfl (by decide) (by decide) _ [] 0 (n : Int) (fun _ => True) rfl rfl ?aZ (fun _ _ => trivial) (Kd.R_nil _ _ _ _ _) ?a0 HB.out (Nat.le_refl _) ?aL ?_; (case aZ => exact rfl); (case a0 => omega); (case aL => simp; omega); intro v1 w1 ho1 hb1 hg1 hat1; obtain ⟨g, cc, rfl, -, -, -⟩ := Kd.R_form ho1 (by simp; omega); obtain ⟨inner, hown⟩ := Kd.R_own ho1; have HO1 := Aside0.mk (own_cut0 hown); have HB1 := Aside0.mk hb1; have hcc : 0 ≤ cc := Nat.zero_le _; clear ho1 hb1 hg1 hat1 hown)
  go_ret
  exact ⟨_, rfl, HO1.out, HB1.out⟩
theorem flat_snoc (rows : List (List Int)) (k : Nat) (x : List Int) (hx : rows[k]? = some x) : (rows.take (k + 1)).flatten = (rows.take k).flatten ++ x := by
 rw [List.take_add_one, hx]; simp
theorem flat_le (rows : List (List Int)) (k : Nat) : (rows.take k).flatten.length ≤ rows.flatten.length := by
 conv => rhs; rw [← List.take_append_drop k rows, List.flatten_append, List.length_append]
 omega
set_option maxRecDepth 100000 in
set_option maxHeartbeats 1600000 in
theorem concat_i.calls (A : Option Addr) (c : Nat) (rows : List (List Int)) (W : World) (hC : Kd.C (Kd.slice 3 (Kd.int .i64)) W A rows.length rows) (hr : rows.length ≤ 1000000) (hl : rows.flatten.length ≤ 1000000) :
  Calls Tryz.prog 149 #[.slice A rows.length c] W fun e w' => ∃ v, e = .returned v ∧ Kd.R (Kd.int .i64) 3 w' W.heap.size (fun _ => True) v rows.flatten ∧ Below W.heap.size W w' := by
 have HC := Aside0.mk hC
 clear hC
 go_enter Tryz.func149, Tryz.ntmps149
 go_wp2
 go_loop [3, 11] (fun s i => ∃ k z : Nat, k ≤ rows.length ∧ s = .int .i64 (z : Int) ∧ i = .int .i64 (k : Int) ∧ Aside0 (z = (rows.take k).flatten.length)) (fun _ i => rows.length - (intOf i).toNat)
 case atStart => exact ⟨0, 0, Nat.zero_le _, rfl, rfl, ⟨rfl⟩⟩
 case round =>
  obtain ⟨k, z, hk, rfl, rfl, HZ⟩ := hrel
  have hz : z ≤ 1000000 := by have := flat_le rows k; have := HZ.out; omega
  by_cases hlt : k < rows.length
  ·obtain ⟨x, hx⟩ : ∃ x, rows[k]? = some x := ⟨_, List.getElem?_eq_getElem hlt⟩
   obtain ⟨ad, A', c', rfl, hcell, hle, hCx⟩ := row_at HC.out k x hx
   have HZ1 := Aside0.mk (show z + x.length = (rows.take (k + 1)).flatten.length by rw [flat_snoc rows k x hx, List.length_append, ← HZ.out])
   have hz1 : z + x.length ≤ 1000000 := by have := flat_le rows (k + 1); have := HZ1.out; omega
   have hn0 : decide ((z : Int) + (x.length : Int) < 0) = false := decide_eq_false (by omega)
   have hn1 : ¬ ((z : Int) + (x.length : Int) < 0) := by omega
   clear hx hCx hle
   go_wp2
   go_round
   case rel => exact ⟨k + 1, z + x.length, by omega, by go_num, by go_num, HZ1⟩
   case measure => simp [intOf]; omega
  ·obtain rfl : k = rows.length := by omega
   clear hk hlt
   have HG := Aside0.mk (grow_i.calls z W hz)
   go_wp2_with (first | (go_at_call 171; refine HG.out.mono ?_; rintro e w1 ⟨v, rfl, hv, hB⟩))
   have HV := Aside0.mk hv
   have HB := Aside0.mk hB
   clear hv hB HG
   go_loopw [6, 27] (fun v i wr => ∃ k : Nat, k ≤ rows.length ∧ i = .int .i64 (k : Int) ∧ Aside0 (wr.ownsRow W.heap.size 3 1 v (rows.take k).flatten.length (nums .i64 (rows.take k).flatten)) ∧ Aside0 (Below W.heap.size W wr)) (fun _ i _ => rows.length - (intOf i).toNat)
   case atStart => exact ⟨0, Nat.zero_le _, rfl, HV, HB⟩
   case round =>
    clear HV HB
    obtain ⟨k, hk, rfl, HV, HB⟩ := hrel
    by_cases hlt : k < rows.length
    ·obtain ⟨x, hx⟩ : ∃ x, rows[k]? = some x := ⟨_, List.getElem?_eq_getElem hlt⟩
     obtain ⟨ad, A', c', rfl, hcell, hle, hCx⟩ := row_at (Kd.C_below HC.out HB.out) k x hx
     have HX := Aside0.mk (flat_snoc rows k x hx)
     have HCX := Aside0.mk (reads_C hCx)
     have HL := Aside0.mk (flat_le rows (k + 1))
     rw [HX.out, List.length_append] at HL
     clear hx hCx hle
     go_wp2_with ((with_reducible refine gate_builtin (b := .append) (xs := #[.tmp 31, .tmp 32]) rfl ?_); at_builtin; refine print_append_row (w0 := W) W.heap.size rfl (.tmp 31) (.tmp 32) 66 3 .i64 8 rfl Tryz.underlying66 (by kernel_rfl) (by decide) _ _ x A' x.length c' rfl rfl HV.out HCX.out HB.out HB.out.size ?aL ?_; (case aL => have := HL.out; omega); intro v1 w1 ho1 hb1 hg1 hat1; have HV1 := Aside0.mk ho1; have HB1 := Aside0.mk hb1; clear ho1 hb1 hg1 hat1)
     go_roundw
     case rel => exact ⟨k + 1, by omega, by go_num, ⟨by rw [HX.out]; exact HV1.out⟩, HB1⟩
     case measure => simp [intOf]; omega
    ·obtain rfl : k = rows.length := by omega
     have HF := Aside0.mk (R_own_ints HV.out)
     rw [List.take_length] at HF
     go_wp2
     go_ret
     exact ⟨_, rfl, HF.out, HB.out⟩
set_option maxRecDepth 100000 in
set_option maxHeartbeats 1600000 in
theorem concat_b.calls (A : Option Addr) (c : Nat) (rows : List (List Int)) (W : World) (hC : Kd.C (Kd.slice 5 (Kd.int .u8)) W A rows.length rows) (hr : rows.length ≤ 1000000) (hl : rows.flatten.length ≤ 1000000) :
  Calls Tryz.prog 66 #[.slice A rows.length c] W fun e w' => ∃ v, e = .returned v ∧ Kd.R (Kd.int .u8) 5 w' W.heap.size (fun _ => True) v rows.flatten ∧ Below W.heap.size W w' := by
 have HC := Aside0.mk hC
 clear hC
 go_enter Tryz.func66, Tryz.ntmps66
 go_wp2
 go_loop [3, 11] (fun s i => ∃ k z : Nat, k ≤ rows.length ∧ s = .int .i64 (z : Int) ∧ i = .int .i64 (k : Int) ∧ Aside0 (z = (rows.take k).flatten.length)) (fun _ i => rows.length - (intOf i).toNat)
 case atStart => exact ⟨0, 0, Nat.zero_le _, rfl, rfl, ⟨rfl⟩⟩
 case round =>
  obtain ⟨k, z, hk, rfl, rfl, HZ⟩ := hrel
  have hz : z ≤ 1000000 := by have := flat_le rows k; have := HZ.out; omega
  by_cases hlt : k < rows.length
  ·obtain ⟨x, hx⟩ : ∃ x, rows[k]? = some x := ⟨_, List.getElem?_eq_getElem hlt⟩
   obtain ⟨ad, A', c', rfl, hcell, hle, hCx⟩ := row_at HC.out k x hx
   have HZ1 := Aside0.mk (show z + x.length = (rows.take (k + 1)).flatten.length by rw [flat_snoc rows k x hx, List.length_append, ← HZ.out])
   have hz1 : z + x.length ≤ 1000000 := by have := flat_le rows (k + 1); have := HZ1.out; omega
   have hn0 : decide ((z : Int) + (x.length : Int) < 0) = false := decide_eq_false (by omega)
   have hn1 : ¬ ((z : Int) + (x.length : Int) < 0) := by omega
   clear hx hCx hle
   go_wp2
   go_round
   case rel => exact ⟨k + 1, z + x.length, by omega, by go_num, by go_num, HZ1⟩
   case measure => simp [intOf]; omega
  ·obtain rfl : k = rows.length := by omega
   clear hk hlt
   have HG := Aside0.mk (grow_b.calls z W hz)
   go_wp2_with (first | (go_at_call 101; refine HG.out.mono ?_; rintro e w1 ⟨v, rfl, hv, hB⟩))
   have HV := Aside0.mk hv
   have HB := Aside0.mk hB
   clear hv hB HG
   go_loopw [6, 27] (fun v i wr => ∃ k : Nat, k ≤ rows.length ∧ i = .int .i64 (k : Int) ∧ Aside0 (wr.ownsRow W.heap.size 5 1 v (rows.take k).flatten.length (nums .u8 (rows.take k).flatten)) ∧ Aside0 (Below W.heap.size W wr)) (fun _ i _ => rows.length - (intOf i).toNat)
   case atStart => exact ⟨0, Nat.zero_le _, rfl, HV, HB⟩
   case round =>
    clear HV HB
    obtain ⟨k, hk, rfl, HV, HB⟩ := hrel
    by_cases hlt : k < rows.length
    ·obtain ⟨x, hx⟩ : ∃ x, rows[k]? = some x := ⟨_, List.getElem?_eq_getElem hlt⟩
     obtain ⟨ad, A', c', rfl, hcell, hle, hCx⟩ := row_at (Kd.C_below HC.out HB.out) k x hx
     have HX := Aside0.mk (flat_snoc rows k x hx)
     have HCX := Aside0.mk (reads_C hCx)
     have HL := Aside0.mk (flat_le rows (k + 1))
     rw [HX.out, List.length_append] at HL
     clear hx hCx hle
     go_wp2_with ((with_reducible refine gate_builtin (b := .append) (xs := #[.tmp 31, .tmp 32]) rfl ?_); at_builtin; refine print_append_row (w0 := W) W.heap.size rfl (.tmp 31) (.tmp 32) 34 5 .u8 1 rfl Tryz.underlying34 (by kernel_rfl) (by decide) _ _ x A' x.length c' rfl rfl HV.out HCX.out HB.out HB.out.size ?aL ?_; (case aL => have := HL.out; omega); intro v1 w1 ho1 hb1 hg1 hat1; have HV1 := Aside0.mk ho1; have HB1 := Aside0.mk hb1; clear ho1 hb1 hg1 hat1)
     go_roundw
     case rel => exact ⟨k + 1, by omega, by go_num, ⟨by rw [HX.out]; exact HV1.out⟩, HB1⟩
     case measure => simp [intOf]; omega
    ·obtain rfl : k = rows.length := by omega
     have HF := Aside0.mk (R_own_ints HV.out)
     rw [List.take_length] at HF
     go_wp2
     go_ret
     exact ⟨_, rfl, HF.out, HB.out⟩
end Go.Proofs.YtelcllhibpnneaaGreat.XCo
end
section
namespace Go.Proofs.YtelcllhibpnneaaGreat.XCo
open Go.RowKit Go.Proofs.YtelcllhibpnneaaGreatW.PrintWords Go.Proofs.YtelcllhibpnneaaGreatW.PrintLast Go.Proofs.YtelcllhibpnneaaGreatW.PrintMore
attribute [local go_sem] max2_int min2_int max_two min_two max_three min_three max_four min_four
set_option linter.unusedVariables false
set_option linter.unusedSimpArgs false
set_option maxRecDepth 100000 in
set_option maxHeartbeats 1600000 in
theorem square.ok (g : Nat) (S : Nat → Prop) (wb p : Int) (A : Option Addr) (c : Nat) (rows : List (List Int)) (W : World) (hw : wb = 8 ∨ wb = 16) (hM : MayOk wb rows rows.length) (hF : Fd W g wb p S) (hC : Kd.C (Kd.slice 3 (Kd.int .i64)) W A rows.length rows) :
  Calls Tryz.prog 132 #[.pointer (some ⟨g, 0, none⟩), .slice A rows.length c] W fun e w' => e = .returned (.bool true) ∧ Below W.heap.size W w' := by
 have HM := Aside0.mk (matrix_May.ok g S wb p A c rows.length rows W hw hM hF hC)
 obtain ⟨r0, hr0⟩ : ∃ r, rows[0]? = some r := ⟨_, List.getElem?_eq_getElem (by have := hM.n1; omega)⟩
 obtain ⟨ad, A1, c1, rfl, hcell, hle, hC0⟩ := row_at hC 0 r0 hr0
 have l0 := (hM.each r0 (List.mem_of_getElem? hr0)).1
 rw [l0, addr_zero] at hcell
 have n1 : (0 : Int) < (rows.length : Int) := by have := hM.n1; omega
 generalize rows.length = nr at *
 have hself : ((nr : Int) == (nr : Int)) = true := by simp
 clear hM hF hC hr0 hC0 l0 hle
 go_enter Tryz.func132, Tryz.ntmps132
 go_wp2_with (first | (go_at_call 128; refine HM.out.mono ?_; rintro e w1 ⟨rfl, hB⟩; have hcell1 := pw_cell_below hB hcell; have HB := Aside0.mk hB; clear hB))
 go_ret
 exact ⟨rfl, HB.out⟩
abbrev dM (e : Nat) (k : IntKind) : Kd (List Int) := Kd.slice e (Kd.int k)
theorem S_fresh {e t : Nat} {k : IntKind} {wr w1 : World} {B : Nat} {v u : Value} {xs : List (List Int)} {row : List Int} (HO : Kd.S (dM e k) t wr B (fun _ => True) v xs) (hb : Below wr.heap.size wr w1) (hB : B ≤ wr.heap.size) (hrow : Kd.R (Kd.int k) e w1 wr.heap.size (fun _ => True) u row) :
  Kd.S (dM e k) t w1 B (fun k' => True ∧ ¬ wr.heap.size ≤ k') v xs ∧ (dM e k).M w1 B (fun k' => wr.heap.size ≤ k') row [u] ∧ (∀ k', wr.heap.size ≤ k' → True ∧ some k' ≠ v.ownBlock) := by
 refine ⟨?_, ⟨u, rfl, ?_⟩, fun k' hk => ⟨trivial, fun e' => ?_⟩⟩
 ·have h1 := Kd.S_bound HO
  exact Kd.S_below (Kd.S_mono h1 (fun k' hk => ⟨trivial, by have := hk.2.2.1; omega⟩)) hb
 ·exact Kd.R_lower (Kd.R_mono (Kd.R_bound hrow) (fun k' hk => hk.2.1)) hB
 ·have h1 := (Kd.S_bound HO)
  obtain ⟨f, h0, -⟩ := h1
  have := (h0 k' e'.symm).2.2.1
  omega
theorem zip_take {α β γ : Type} (f : α → β → γ) : ∀ (a : List α) (b : List β), List.zipWith f a b = List.zipWith f a (b.take a.length)
 | [], _ => by simp
 | _ :: _, [] => by simp
 | x :: a, y :: b => by simp [← zip_take f a b]
theorem C_two {e t : Nat} {k : IntKind} {W : World} {g : Nat} {A B : Option Addr} {x y : List Int} {c d : Nat} (h : W.heap[g]? = some (.cells #[.slice A x.length c, .slice B y.length d] t (0, 0))) (hx : Kd.C (Kd.int k) W A x.length x) (hc : x.length ≤ c) (hy : Kd.C (Kd.int k) W B y.length y) (hd : y.length ≤ d) :
  Kd.C (dM e k) W (some ⟨g, 0, none⟩) [x, y].length [x, y] := by
 refine ⟨rfl, by simp, fun _ => ⟨_, rfl, fun j p hp => ?_⟩⟩
 have hadd : ∀ j : Nat, (⟨g, 0, none⟩ : Addr).add (j * (dM e k).sz + 0) = ⟨g, j, none⟩ := fun j => by
  show (⟨g, 0, none⟩ : Addr).add (j * 1 + 0) = _
  unfold Addr.add
  split <;> simp_all
 match j, hp with
 | 0, hp =>
  obtain rfl : x = p := by simpa using hp
  refine ⟨[.slice A x.length c], rfl, ⟨A, c, rfl, hc, hx⟩, fun i u hu => ?_⟩
  cases i with
  | succ i => simp at hu
  | zero =>
   obtain rfl : Value.slice A x.length c = u := by simpa using hu
   rw [hadd 0, blk_cell h 0]; rfl
 | 1, hp =>
  obtain rfl : y = p := by simpa using hp
  refine ⟨[.slice B y.length d], rfl, ⟨B, d, rfl, hd, hy⟩, fun i u hu => ?_⟩
  cases i with
  | succ i => simp at hu
  | zero =>
   obtain rfl : Value.slice B y.length d = u := by simpa using hu
   rw [hadd 1, blk_cell h 1]; rfl
 | j + 2, hp => simp at hp
set_option maxRecDepth 100000 in
set_option maxHeartbeats 1600000 in
theorem beside.calls (A B : Option Addr) (c1 c2 n : Nat) (a b : List (List Int)) (W : World) (hA : Kd.C (dM 3 .i64) W A a.length a) (hB : Kd.C (dM 3 .i64) W B b.length b) (hla : a.length ≤ 1000) (hlb : a.length ≤ b.length) (hr : ∀ x, x ∈ a → x.length ≤ 1000) (hr' : ∀ x, x ∈ b → x.length ≤ 1000) :
  Calls Tryz.prog 133 #[.slice A a.length c1, .slice B b.length c2] W fun e w' => ∃ v, e = .returned v ∧ Kd.S (dM 3 .i64) 66 w' W.heap.size (fun _ => True) v (List.zipWith (· ++ ·) a b) ∧ Below W.heap.size W w' := by
 have HCA := Aside0.mk hA
 have HCB := Aside0.mk hB
 have HRA := Aside0.mk hr
 have HRB := Aside0.mk hr'
 clear hA hB hr hr'
 go_enter Tryz.func133, Tryz.ntmps133
 go_wp2
 go_loopw [5, 10] (fun v i wr => ∃ k : Nat, k ≤ a.length ∧ i = .int .i64 (k : Int) ∧ Aside0 (Kd.S (dM 3 .i64) 66 wr W.heap.size (fun _ => True) v (List.zipWith (· ++ ·) (a.take k) (b.take k))) ∧ Aside0 (Below W.heap.size W wr)) (fun _ i _ => a.length - (intOf i).toNat)
 case atStart => exact ⟨0, Nat.zero_le _, rfl, ⟨Kd.S_nil _ _ _ _ _⟩, ⟨Below.refl _ _⟩⟩
 case round =>
  obtain ⟨k, hk, rfl, HO, HB⟩ := hrel
  by_cases hlt : k < a.length
  ·obtain ⟨x, hx⟩ : ∃ x, a[k]? = some x := ⟨_, List.getElem?_eq_getElem hlt⟩
   obtain ⟨y, hy⟩ : ∃ y, b[k]? = some y := ⟨_, List.getElem?_eq_getElem (by omega)⟩
   obtain ⟨ad, A', c', rfl, hcell, hle, hCx⟩ := row_at (Kd.C_below HCA.out HB.out) k x hx
   obtain ⟨bd, B', d', rfl, hcell2, hle2, hCy⟩ := row_at (Kd.C_below HCB.out HB.out) k y hy
   have HZ := Aside0.mk (show List.zipWith (· ++ ·) (a.take (k + 1)) (b.take (k + 1)) = List.zipWith (· ++ ·) (a.take k) (b.take k) ++ [x ++ y] by
    rw [List.take_add_one, List.take_add_one, hx, hy]
    rw [List.zipWith_append (by simp; omega)]
    rfl)
   have hlz : (List.zipWith (· ++ ·) (a.take k) (b.take k)).length ≤ 1000 := by simp; omega
   have HLZ := Aside0.mk hlz
   have hblk : (wr.alloc (.cells #[.slice A' x.length c', .slice B' y.length d'] 66)).heap[wr.heap.size]? = some (.cells #[.slice A' x.length c', .slice B' y.length d'] 66 (0, 0)) := heap_alloc_new _ _
   have HC2 := Aside0.mk (C_two (e := 3) hblk (Kd.C_below hCx (below_alloc (Below.refl _ _) _)) hle (Kd.C_below hCy (below_alloc (Below.refl _ _) _)) hle2)
   have HCC := Aside0.mk (concat_i.calls (some ⟨wr.heap.size, 0, none⟩) 2 [x, y] _ HC2.out (by simp) (by have := HRA.out x (List.mem_of_getElem? hx); have := HRB.out y (List.mem_of_getElem? hy); simp; omega))
   have hltb : k < b.length := by omega
   clear hx hy hCx hCy hle hle2 hblk hlz
   go_wp2_with fail
   refine HCC.out.mono ?_
   rintro e w1 ⟨u, rfl, hu, hb1⟩
   rw [show [x, y].flatten = x ++ y by simp] at hu
   obtain ⟨ua, uc, rfl⟩ := Kd.R_slice hu
   generalize (x ++ y).length = nn at hu ⊢
   have hsf := S_fresh (Kd.S_alloc HO.out (.cells #[.slice A' x.length c', .slice B' y.length d'] 66)) hb1 (Nat.le_trans HB.out.size (by simp)) hu
   have HS1 := Aside0.mk hsf.1
   have HM1 := Aside0.mk hsf.2.1
   have HOK := Aside0.mk hsf.2.2
   have HB1 := Aside0.mk (HB.out.trans ((below_step (below_alloc (Below.refl _ _) _) hb1).mono HB.out.size))
   have HSZ := Aside0.mk hb1.size
   clear hu hb1 hsf
   go_wp2_with ((with_reducible refine gate_builtin (b := .append) (xs := #[.tmp 15, .tmp 23]) rfl ?_); go_must (at_builtin; refine Kd.S_append (dM 3 .i64) (w0 := W) W.heap.size rfl (.tmp 15) (.tmp 23) 61 66 (.slice none 0 0) 24 rfl Tryz.underlying61 (by kernel_rfl) rfl (by decide) (by decide) _ _ (x ++ y) [.slice ua nn uc] (fun _ => True) (fun k' => (wr.alloc (.cells #[.slice A' x.length c', .slice B' y.length d'] 66)).heap.size ≤ k') rfl rfl HM1.out HOK.out (fun _ _ => trivial) HS1.out HB1.out HB1.out.size ?aL ?_; (case aL => have := HLZ.out; omega)); intro v2 w2 ho2 hb2 hg2 hat2; have HO2 := Aside0.mk ho2; have HB2 := Aside0.mk hb2; clear ho2 hb2 hg2 hat2)
   go_roundw
   case rel => exact ⟨k + 1, by omega, by go_num, ⟨by rw [HZ.out]; exact HO2.out⟩, HB2⟩
   case measure => simp [intOf]; omega
  ·obtain rfl : k = a.length := by omega
   have HF := Aside0.mk HO.out
   rw [List.take_length] at HF
   go_wp2
   go_ret
   refine ⟨_, rfl, ?_, HB.out⟩
   rw [zip_take]
   exact HF.out
end Go.Proofs.YtelcllhibpnneaaGreat.XCo
end
section
namespace Go.Proofs.YtelcllhibpnneaaGreat.XCo
open Go.RowKit Go.Proofs.YtelcllhibpnneaaGreatW.PrintWords Go.Proofs.YtelcllhibpnneaaGreatW.PrintLast Go.Proofs.YtelcllhibpnneaaGreatW.PrintMore
attribute [local go_sem] max2_int min2_int max_two min_two max_three min_three max_four min_four
set_option linter.unusedVariables false
set_option linter.unusedSimpArgs false
def dotF (wb : Int) : List Int → List Int → Int → Int
 | x :: a, y :: b, s => dotF wb a b (Go.bits .xor .i64 s (gmul wb x y))
 | _, _, s => s
theorem dotF_drop (wb : Int) (a b : List Int) (s : Int) (k : Nat) (x y : Int) (hx : a[k]? = some x) (hy : b[k]? = some y) : dotF wb (a.drop k) (b.drop k) s = dotF wb (a.drop (k + 1)) (b.drop (k + 1)) (Go.bits .xor .i64 s (gmul wb x y)) := by
 obtain ⟨h1, rfl⟩ := List.getElem?_eq_some_iff.1 hx
 obtain ⟨h2, rfl⟩ := List.getElem?_eq_some_iff.1 hy
 rw [List.drop_eq_getElem_cons h1, List.drop_eq_getElem_cons h2, dotF]
theorem dotF_end (wb : Int) (a b : List Int) (s : Int) : dotF wb (a.drop a.length) b s = s := by
 rw [List.drop_length]; cases b <;> rfl
abbrev NotG (g : Nat) : Nat → Prop := fun k => k ≠ g
theorem F_bb {α : Type} {d : Kd α} {W W1 : World} {g : Nat} {A : Option Addr} {n : Nat} {xs : List α} (h : Kd.F d W (NotG g) A n xs) (hb : BB W W1 g) : Kd.F d W1 (NotG g) A n xs := Kd.F_keep h hb.keep (fun _ hk => hk)
set_option maxRecDepth 100000 in
set_option maxHeartbeats 1600000 in
theorem matrix_dot.calls (g : Nat) (S : Nat → Prop) (wb : Int) (A B : Option Addr) (ca cb : Nat) (a b : List Int) (W : World) (hw : wb = 8 ∨ wb = 16) (hF : Fd W g wb (fpoly wb) S) (hS : ∀ k, S k → k < W.heap.size) (hla : a.length ≤ 1000) (hlb : a.length ≤ b.length)
  (ha : Kd.F (Kd.int .i64) W (NotG g) A a.length a) (hb : Kd.F (Kd.int .i64) W (NotG g) B b.length b) :
  Calls Tryz.prog 174 #[.pointer (some ⟨g, 0, none⟩), .slice A a.length ca, .slice B b.length cb] W fun e w' => e = .returned (.int .i64 (dotF wb a b 0)) ∧ Fd w' g wb (fpoly wb) S ∧ BB W w' g := by
 have HF := Aside0.mk hF
 have HS := Aside0.mk hS
 have HW := Aside0.mk hw
 have HA := Aside0.mk ha
 have HB := Aside0.mk hb
 obtain ⟨R, hR⟩ : ∃ R, dotF wb a b 0 = R := ⟨_, rfl⟩
 rw [hR]
 have HR := Aside0.mk (show dotF wb (a.drop 0) (b.drop 0) 0 = R from hR)
 clear hF hS hw ha hb hR
 go_enter Tryz.func174, Tryz.ntmps174
 go_wp2
 go_loopw [7, 12] (fun s i wr => ∃ (k : Nat) (z : Int), k ≤ a.length ∧ s = .int .i64 z ∧ i = .int .i64 k ∧ Aside0 (dotF wb (a.drop k) (b.drop k) z = R) ∧ Aside0 (Fd wr g wb (fpoly wb) S) ∧ Aside0 (BB W wr g)) (fun _ i _ => a.length - (intOf i).toNat)
 case atStart => exact ⟨0, 0, Nat.zero_le _, rfl, rfl, HR, HF, ⟨BB.refl _ _⟩⟩
 case round =>
  clear HR HF
  obtain ⟨k, z, hk, rfl, rfl, HR, HF, HBB⟩ := hrel
  by_cases hlt : k < a.length
  ·obtain ⟨x, hx⟩ : ∃ x, a[k]? = some x := ⟨_, List.getElem?_eq_getElem hlt⟩
   obtain ⟨y, hy⟩ : ∃ y, b[k]? = some y := ⟨_, List.getElem?_eq_getElem (by omega)⟩
   obtain ⟨ad, rfl, hc1⟩ := int_at (Kd.F_now (F_bb HA.out HBB.out)) k x hx
   obtain ⟨bd, rfl, hc2⟩ := int_at (Kd.F_now (F_bb HB.out HBB.out)) k y hy
   have HR1 := Aside0.mk ((dotF_drop wb a b z k x y hx hy).symm.trans HR.out)
   have hltb : k < b.length := by omega
   clear hx hy
   go_wp2_with (first | (go_at_call 95; refine (gf_Mul.calls g S wb x y _ HW.out HF.out (fun k hk => Nat.lt_of_lt_of_le (HS.out k hk) HBB.out.size)).mono ?_; rintro e w3 ⟨rfl, q1, q2⟩))
   go_roundw
   case rel => exact ⟨k + 1, _, by omega, rfl, by go_num, HR1, ⟨q1⟩, ⟨HBB.out.trans q2⟩⟩
   case measure => simp [intOf]; omega
  ·obtain rfl : k = a.length := by omega
   have HE := Aside0.mk ((dotF_end wb a (b.drop a.length) z).symm.trans HR.out)
   go_wp2
   go_ret
   refine ⟨?_, HF.out, HBB.out⟩
   rw [← HE.out]; rfl
end Go.Proofs.YtelcllhibpnneaaGreat.XCo
end
section
namespace Go.Proofs.YtelcllhibpnneaaGreat.XCo
open Go.RowKit Go.Proofs.YtelcllhibpnneaaGreatW.PrintWords Go.Proofs.YtelcllhibpnneaaGreatW.PrintLast Go.Proofs.YtelcllhibpnneaaGreatW.PrintMore
attribute [local go_sem] max2_int min2_int max_two min_two max_three min_three max_four min_four
set_option linter.unusedVariables false
set_option linter.unusedSimpArgs false
theorem append_int_run {W : World} {base : Nat} {v : Value} {xs : List Int} (z : Int) (HO : (Kd.int .i64).R 3 W base (fun _ => True) v xs) (hb : base ≤ W.heap.size) (hl : xs.length ≤ 1000) :
  ∃ v1 w1, (Builtin.append_ #[66, 66] 66 #[v, .slice (some ⟨W.heap.size, 0, none⟩) 1 1]).run Tryz.prog (W.alloc (.cells #[.int .i64 z] 3)) = .ok v1 w1 ∧ (Kd.int .i64).R 3 w1 base (fun _ => True) v1 (xs ++ [z]) ∧ W.grownBy w1 v.ownBlock ∧ (v1.ownBlock = v.ownBlock ∨ ∃ b, v1.ownBlock = some b ∧ W.heap.size ≤ b) := by
 obtain ⟨h0, inner, hown, hr⟩ := HO
 obtain ⟨i0, hi, hz0, hz1, hz2⟩ := info_parts info3
 have hcell : (W.alloc (.cells #[.int .i64 z] 3)).heap[W.heap.size]? = some (.cells #[.int .i64 z] 3 (0, 0)) := heap_alloc_new _ _
 obtain ⟨v1, w1, hrun, h1, h2, -, h4⟩ := run_append_own_at (P := Tryz.prog) (w := W.alloc (.cells #[.int .i64 z] 3)) base 66 66 3 i0 (.int .i64 0) 1 8 Tryz.underlying66 hi hz0 hz1 hz2 rfl (by decide) v xs.length inner (pw_own_below hown (below_alloc (Below.refl _ _) _)) ⟨W.heap.size, 0, none⟩ 1 1 [.int .i64 z] rfl
  (fun j u hu => by
   cases j with
   | succ j => simp at hu
   | zero =>
    obtain rfl : Value.int .i64 z = u := by simpa using hu
    exact (blk_cell hcell 0).trans rfl) (by simp [Value.oneCell']) (by unfold maxLen; omega) (by omega) (by simp; omega)
 have hgW : W.grownBy w1 v.ownBlock := (World.grownBy_alloc W _ _).trans h2
 have hat : v1.ownBlock = v.ownBlock ∨ ∃ b, v1.ownBlock = some b ∧ W.heap.size ≤ b := by
  rcases h4 with h4 | h4
  ·exact .inl h4
  ·exact .inr ⟨_, h4, by simp⟩
 exact ⟨v1, w1, hrun, Kd.R_appended h0 hr (okp := fun _ => False) (show (Kd.int .i64).M W base (fun _ => False) z [.int .i64 z] from rfl) (fun _ h => h.elim) (fun _ _ => trivial) h1 hgW hat, hgW, hat⟩
theorem R_noncells {X Y : World} {row : Option Nat} {base : Nat} {ok : Nat → Prop} {v : Value} {xs : List Int} {e : Nat} (h : (Kd.int .i64).R e X base ok v xs) (hg : X.grownBy Y row) (hr : ∀ r, row = some r → ∃ o : Obj, X.heap[r]? = some o ∧ o.isCells = false) : (Kd.int .i64).R e Y base ok v xs := by
 refine Kd.R_mono (Kd.R_move (Kd.R_bound h) (fun k hk => ?_)) (fun k hk => hk.1)
 obtain ⟨-, -, hlt, q, -, cells, hc⟩ := hk
 exact grownBy_keeps_cells hg hr hc rfl
theorem Fd_noncells {X Y : World} {row : Option Nat} {g : Nat} {wb p : Int} {S : Nat → Prop} (h : Fd X g wb p S) (hg : X.grownBy Y row) (hr : ∀ r, row = some r → ∃ o : Obj, X.heap[r]? = some o ∧ o.isCells = false) : Fd Y g wb p S := by
 obtain ⟨h1, h2 | ⟨h8, hp, a, b, h3, ha, hb, na, nb⟩⟩ := h
 ·exact ⟨h1, .inl ((grownBy_keeps_cells hg hr h2 rfl).trans h2)⟩
 ·exact ⟨h1, .inr ⟨h8, hp, a, b, (grownBy_keeps_cells hg hr h3 rfl).trans h3, (grownBy_keeps_cells hg hr ha rfl).trans ha, (grownBy_keeps_cells hg hr hb rfl).trans hb, na, nb⟩⟩
theorem row_atF {α : Type} {d : Kd α} {e : Nat} {W : World} {ok : Nat → Prop} {ad : Addr} {rows : List (List α)} (h : Kd.F (Kd.slice e d) W ok (some ad) rows.length rows) (k : Nat) (x : List α) (hx : rows[k]? = some x) :
  ∃ A' c', W.cell? (ad.add k) = some (.slice A' x.length c') ∧ x.length ≤ c' ∧ Kd.F d W ok A' x.length x := by
 have hlt := (List.getElem?_eq_some_iff.1 hx).1
 obtain ⟨ad', c, hA, hl, hK, hc, -⟩ := Kd.F_get h ([] : List α) (k : Int) (by omega) (by omega)
 obtain rfl : ad = ad' := Option.some.inj hA
 rw [Int.toNat_natCast, List.getD_eq_getElem?_getD, hx] at hK
 obtain ⟨A', c', rfl, hle, hF⟩ := Kd.FK_slice_open hK
 refine ⟨A', c', ?_, hle, hF⟩
 have := hc 0 _ rfl
 simpa [Kd.slice] using this
theorem leaves_marks {P : Program} {fn : Func} {tmps : Array Value} {R : Ending → World → Prop} {n : Nat} : ∀ (Ds : List Nat) (w : World), Ds.Nodup → (∀ D, D ∈ Ds → w.heap[D]? = some (.deferred (some []))) →
  (∀ w', (∀ k, k < w.heap.size → k ∉ Ds → w'.heap[k]? = w.heap[k]?) → w'.heap.size = w.heap.size → w'.os = w.os → w'.tape = w.tape → w'.output = w.output → LeavesInM Fence.wide n P fn tmps R [] .returning w') →
  LeavesInM Fence.wide n P fn tmps R (Ds.map fun D => { target := .collected D, args := #[] }) .returning w
 | [], w, _, _, h => h w (fun _ _ _ => rfl) rfl rfl rfl rfl
 | D :: Ds, w, hn, hd, h => by
  have h1 := hd D (List.mem_cons_self ..)
  have hlt := (Array.getElem?_eq_some_iff.1 h1).1
  refine ⟨by simp, .inl ⟨D, _, rfl, run_takeDeferred h1, ?_⟩⟩
  have hn' := List.nodup_cons.1 hn
  refine leaves_marks Ds _ hn'.2 (fun D' hD' => (World.putObj_heap_other (fun e => hn'.1 (by rw [← e]; exact hD'))).trans (hd D' (List.mem_cons_of_mem _ hD'))) (fun w' hk hs h3 h4 h5 => ?_)
  have hsz : (w.putObj D (.deferred none)).heap.size = w.heap.size := by simp [World.putObj]
  exact h w' (fun k hk1 hk2 => (hk k (by rw [hsz]; exact hk1) (fun e => hk2 (List.mem_cons_of_mem _ e))).trans (World.putObj_heap_other (fun e => hk2 (by simp [e])))) (hs.trans hsz) (h3.trans rfl) (h4.trans rfl) (h5.trans rfl)
theorem Fd.cells {W : World} {g : Nat} {wb p : Int} {S : Nat → Prop} (h : Fd W g wb p S) : ∃ cs, W.heap[g]? = some (.cells cs 165 (0, 0)) := by
 obtain ⟨-, h | ⟨-, -, a, b, h, -⟩⟩ := h
 ·exact ⟨_, h⟩
 ·exact ⟨_, h⟩
theorem Fd.grow {X Y : World} {g : Nat} {wb p : Int} {S : Nat → Prop} {row : Option Nat} (h : Fd X g wb p S) (hr : ∀ k, row = some k → S k) (hg : X.grownBy Y row) : Fd Y g wb p (fun k => S k ∨ X.heap.size ≤ k) :=
 h.more.move (fun k hk hlt => hg.block k hlt (fun e => hk (.inl (hr k e.symm))))
theorem F_block {W : World} {g c t : Nat} {cs : Array Value} {xs : List Int} (hg : W.heap[g]? = some (.cells cs t (0, 0))) (ht : 3 ≠ t) (hc : W.heap[c]? = some (.cells (nums .i64 xs).toArray 3 (0, 0))) (hl : xs.length ≤ 1000) : Kd.F (Kd.int .i64) W (NotG g) (some ⟨c, 0, none⟩) xs.length xs := by
 have hne : c ≠ g := by
  rintro rfl
  rw [hc] at hg
  injection hg with hg
  injection hg with _ hg
  exact ht hg
 intro W' hW
 have hc' := (hW c hne (blk_lt hc)).trans hc
 refine ⟨rfl, by omega, fun _ => ⟨_, rfl, fun j x hx => ⟨[.int .i64 x], rfl, rfl, fun i' u hu => ?_⟩⟩⟩
 cases i' with
 | succ i' => simp at hu
 | zero =>
  obtain rfl : Value.int .i64 x = u := by simpa using hu
  have e : (⟨c, 0, none⟩ : Addr).add (j * (Kd.int .i64).sz + 0) = ⟨c, j, none⟩ := by
   show (⟨c, 0, none⟩ : Addr).add (j * 1 + 0) = _
   unfold Addr.add; split <;> simp_all
  rw [e, blk_cell hc' _]
  simp [nums, hx]
theorem Fd_keepC {X Y : World} {g : Nat} {wb p : Int} {S : Nat → Prop} (h : Fd X g wb p S) (hm : ∀ (k : Nat) (o : Obj), X.heap[k]? = some o → o.isCells = true → Y.heap[k]? = X.heap[k]?) : Fd Y g wb p S := by
 obtain ⟨h1, h2 | ⟨h8, hp, a, b, h3, ha, hb, na, nb⟩⟩ := h
 ·exact ⟨h1, .inl ((hm _ _ h2 rfl).trans h2)⟩
 ·exact ⟨h1, .inr ⟨h8, hp, a, b, (hm _ _ h3 rfl).trans h3, (hm _ _ ha rfl).trans ha, (hm _ _ hb rfl).trans hb, na, nb⟩⟩
theorem S_keepC {X Y : World} {base : Nat} {ok : Nat → Prop} {v : Value} {xs : List (List Int)} {e t : Nat} (h : Kd.S (dM e .i64) t X base ok v xs) (hm : ∀ (k : Nat) (o : Obj), X.heap[k]? = some o → o.isCells = true → Y.heap[k]? = X.heap[k]?) : Kd.S (dM e .i64) t Y base ok v xs := by
 refine Kd.S_mono (Kd.S_move (Kd.S_bound h) (fun k hk => ?_)) (fun k hk => hk.1)
 obtain ⟨-, -, hlt, q, -, cells, hc⟩ := hk
 exact hm _ _ hc rfl
end Go.Proofs.YtelcllhibpnneaaGreat.XCo
end
section
namespace Go.Proofs.YtelcllhibpnneaaGreat.XCo
open Go.RowKit Go.Proofs.YtelcllhibpnneaaGreatW.PrintWords Go.Proofs.YtelcllhibpnneaaGreatW.PrintLast Go.Proofs.YtelcllhibpnneaaGreatW.PrintMore
attribute [local go_sem] max2_int min2_int max_two min_two max_three min_three max_four min_four
set_option linter.unusedVariables false
set_option linter.unusedSimpArgs false
theorem ofInt64 (a : Nat) (ha : a < 9223372036854775808) : (BitVec.ofInt 64 (a : Int)).toNat = a := by
 rw [BitVec.ofInt_natCast, BitVec.toNat_ofNat]; exact Nat.mod_eq_of_lt (by omega)
theorem i64_and1 (a : Nat) (ha : a < 9223372036854775808) : Go.bits .and .i64 (a : Int) 1 = ((a % 2 : Nat) : Int) := by
 show IntKind.i64.wrap ((BitVec.ofInt 64 (a : Int) &&& BitVec.ofInt 64 (1 : Int)).toNat : Int) = _
 rw [BitVec.toNat_and, ofInt64 a ha, show (1 : Int) = ((1 : Nat) : Int) from rfl, ofInt64 1 (by omega), Nat.and_one_is_mod, IntKind.wrap_i64]
 omega
theorem gmN_assoc {wb : Int} (hw : wb = 8 ∨ wb = 16) {a b : Nat} (ha : (a : Int) < fsize wb) (hb : (b : Int) < fsize wb) (c : Nat) : gmN wb (gmN wb a b) c = gmN wb a (gmN wb b c) := by
 rcases hw with rfl | rfl
 ·exact gf8.toGf.assoc (by simp [fsize] at ha; omega) (by simp [fsize] at hb; omega) c
 ·exact gf16.toGf.assoc (by simp [fsize] at ha; omega) (by simp [fsize] at hb; omega) c
theorem gpwN_zero (wb : Int) (a : Nat) : gpwN wb a 0 = 1 := by unfold gpwN; split <;> rfl
theorem gpwN_even {wb : Int} (hw : wb = 8 ∨ wb = 16) {a : Nat} (ha : (a : Int) < fsize wb) (n : Nat) : gpwN wb (gmN wb a a) n = gpwN wb a (2 * n) := by
 rcases hw with rfl | rfl
 ·exact gf8.toGf.gp_sq (by simp [fsize] at ha; omega) n
 ·exact gf16.toGf.gp_sq (by simp [fsize] at ha; omega) n
theorem gpwN_lt {wb : Int} (hw : wb = 8 ∨ wb = 16) {a : Nat} (ha : (a : Int) < fsize wb) (n : Nat) : (gpwN wb a n : Int) < fsize wb := by
 rcases hw with rfl | rfl
 ·have := gf8.toGf.gp_lt (a := a) (by simp [fsize] at ha; omega) n
  simp only [gpwN, fsize, if_true]; omega
 ·have := gf16.toGf.gp_lt (a := a) (by simp [fsize] at ha; omega) n
  simp only [gpwN, fsize, show ¬ ((16 : Int) = 8) by decide, if_false]; omega
theorem gpwN_odd {wb : Int} (hw : wb = 8 ∨ wb = 16) {a : Nat} (ha : (a : Int) < fsize wb) (n : Nat) : gmN wb a (gpwN wb (gmN wb a a) n) = gpwN wb a (2 * n + 1) := by
 rw [gpwN_even hw ha]
 rcases hw with rfl | rfl
 ·exact gf8.toGf.comm (by simp [fsize] at ha; omega) (gf8.toGf.gp_lt (by simp [fsize] at ha; omega) _)
 ·exact gf16.toGf.comm (by simp [fsize] at ha; omega) (gf16.toGf.gp_lt (by simp [fsize] at ha; omega) _)
theorem gmN_one {wb : Int} (hw : wb = 8 ∨ wb = 16) {a : Nat} (ha : (a : Int) < fsize wb) : gmN wb 1 a = a := by
 rcases hw with rfl | rfl
 ·exact gf8.toGf.one_left (by simp [fsize] at ha; omega)
 ·exact gf16.toGf.one_left (by simp [fsize] at ha; omega)
theorem gmul_in {wb a b : Int} (ha : 0 ≤ a) (ha' : a < fsize wb) (hb : 0 ≤ b) (hb' : b < fsize wb) : gmul wb a b = (gmN wb a.toNat b.toNat : Int) := by
 unfold gmul
 rw [if_pos (by simp [inF]; omega)]
theorem gpow_out {wb a n : Int} (h : (inF wb a && decide (0 ≤ n)) = false) : gpow wb a n = 0 := by simp [gpow, h]
def PowRel (wb : Int) (R : Nat) (o x : Int) (m : Nat) : Prop := 0 ≤ o ∧ o < fsize wb ∧ 0 ≤ x ∧ x < fsize wb ∧ gmN wb o.toNat (gpwN wb x.toNat m) = R
theorem PowRel.even {wb : Int} (hw : wb = 8 ∨ wb = 16) {R : Nat} {o x : Int} {m : Nat} (h : PowRel wb R o x m) (he : m % 2 = 0) : PowRel wb R o (gmul wb x x) (m / 2) := by
 obtain ⟨h1, h2, h3, h4, h5⟩ := h
 have hr := gmul_range hw x x
 refine ⟨h1, h2, hr.1, hr.2, ?_⟩
 rw [gmul_in h3 h4 h3 h4, Int.toNat_natCast, gpwN_even hw (by omega), show 2 * (m / 2) = m by omega]
 exact h5
theorem PowRel.odd {wb : Int} (hw : wb = 8 ∨ wb = 16) {R : Nat} {o x : Int} {m : Nat} (h : PowRel wb R o x m) (he : m % 2 = 1) : PowRel wb R (gmul wb o x) (gmul wb x x) (m / 2) := by
 obtain ⟨h1, h2, h3, h4, h5⟩ := h
 have hr := gmul_range hw x x
 have hr' := gmul_range hw o x
 refine ⟨hr'.1, hr'.2, hr.1, hr.2, ?_⟩
 rw [gmul_in h1 h2 h3 h4, gmul_in h3 h4 h3 h4, Int.toNat_natCast, Int.toNat_natCast, gmN_assoc hw (by omega) (by omega), gpwN_odd hw (by omega), show 2 * (m / 2) + 1 = m by omega]
 exact h5
theorem PowRel.done {wb : Int} (hw : wb = 8 ∨ wb = 16) {R : Nat} {o x : Int} (h : PowRel wb R o x 0) : o = (R : Int) := by
 obtain ⟨h1, h2, h3, h4, h5⟩ := h
 rw [gpwN_zero] at h5
 have : gmN wb o.toNat 1 = o.toNat := by
  rcases hw with rfl | rfl
  ·exact gf8.toGf.one_right (by simp [fsize] at h2; omega)
  ·exact gf16.toGf.one_right (by simp [fsize] at h2; omega)
 omega
theorem PowRel.start {wb : Int} (hw : wb = 8 ∨ wb = 16) {a : Int} {n : Nat} (ha : 0 ≤ a) (ha' : a < fsize wb) : PowRel wb (gpwN wb a.toNat n) 1 a n :=
 ⟨by omega, by rcases hw with rfl | rfl <;> decide, ha, ha', gmN_one hw (gpwN_lt hw (by omega) _)⟩
set_option maxRecDepth 100000 in
set_option maxHeartbeats 1600000 in
theorem gf_Pow.calls (g : Nat) (S : Nat → Prop) (wb a : Int) (n : Nat) (W : World) (hn : n ≤ 1000000) (hw : wb = 8 ∨ wb = 16) (hF : Fd W g wb (fpoly wb) S) (hS : ∀ k, S k → k < W.heap.size) :
  Calls Tryz.prog 112 #[.pointer (some ⟨g, 0, none⟩), .int .i64 a, .int .i64 (n : Int)] W fun e w' => e = .returned (.int .i64 (gpow wb a n)) ∧ Fd w' g wb (fpoly wb) S ∧ BB W w' g := by
 have HC := Aside0.mk (gf_in.calls g wb (fpoly wb) S (some ⟨W.heap.size, 0, none⟩) 1 [a] _ (hF.alloc (.cells #[.int .i64 a] 3)) hw (C_nums (t := 3) (heap_alloc_new _ _) (by simp)) (by simp))
 rw [allIn_one] at HC
 have HF := Aside0.mk (hF.alloc (.cells #[.int .i64 a] 3))
 have HB := Aside0.mk ((BB.refl W g).alloc (.cells #[.int .i64 a] 3))
 have HS := Aside0.mk hS
 have HW := Aside0.mk hw
 clear hF hS hw
 have n0 : (0 : Int) ≤ (n : Int) := by omega
 have n1 : decide ((n : Int) < 0) = false := decide_eq_false (by omega)
 by_cases hin : inF wb a = true
 ·have hg : gpow wb a n = ((gpwN wb a.toNat n : Nat) : Int) := by simp [gpow, hin]
  have hr : 0 ≤ a ∧ a < fsize wb := by simpa [inF] using hin
  rw [hin] at HC
  rw [hg]
  have HR := Aside0.mk (PowRel.start (n := n) HW.out hr.1 hr.2)
  generalize gpwN wb a.toNat n = R at HR
  clear hin hg hr
  go_enter Tryz.func112, Tryz.ntmps112
  go_wp2_with (first | (go_at_call 141; refine HC.out.mono ?_; rintro e w9 ⟨rfl, m9, rfl⟩))
  go_loopw [7, 1, 2] (fun o x m wr => ∃ (o1 x1 : Int) (m1 : Nat), o = .int .i64 o1 ∧ x = .int .i64 x1 ∧ m = .int .i64 (m1 : Int) ∧ m1 ≤ 1000000 ∧ Aside0 (PowRel wb R o1 x1 m1) ∧ Aside0 (Fd wr g wb (fpoly wb) S) ∧ Aside0 (BB W wr g)) (fun _ _ m _ => (intOf m).toNat)
  case atStart => exact ⟨1, a, n, rfl, rfl, rfl, hn, HR, ⟨HF.out.drewN _⟩, ⟨HB.out.drewN _⟩⟩
  case round =>
   clear HR HF HB HC n0 n1 hn
   obtain ⟨o1, x1, m1, rfl, rfl, rfl, hm, HR, HF, HB⟩ := hrel
   by_cases hpos : 0 < m1
   ·have p0 : (0 : Int) < (m1 : Int) := by omega
    have HM := Aside0.mk <| fun (y : Int) (wq : World) (hq : Fd wq g wb (fpoly wb) S) (hb : BB W wq g) => gf_Mul.calls g S wb y x1 wq HW.out hq (fun k hk => Nat.lt_of_lt_of_le (HS.out k hk) hb.size)
    by_cases hodd : m1 % 2 = 1
    ·have HR1 := Aside0.mk (HR.out.odd HW.out hodd)
     have hand : (Go.bits .and .i64 (m1 : Int) 1 == 1) = true := by rw [i64_and1 m1 (by omega), hodd]; rfl
     clear hodd
     go_wp2_with (first | (go_at_call 95; refine (HM.out _ _ (by first | exact HF.out | exact q1) (by first | exact HB.out | exact HB.out.trans q2)).mono ?_; rintro e w3 ⟨rfl, q1, q2⟩))
     exact ⟨⟨_, _, m1 / 2, rfl, rfl, by rw [show ((m1 / 2 : Nat) : Int) = (m1 : Int) / 2 by omega], by omega, HR1, ⟨q1⟩, ⟨(HB.out.trans ‹BB wr _ g›).trans q2⟩⟩, by simp [intOf]; omega⟩
    ·have HR1 := Aside0.mk (HR.out.even HW.out (by omega))
     have hand : (Go.bits .and .i64 (m1 : Int) 1 == 1) = false := by rw [i64_and1 m1 (by omega), show m1 % 2 = 0 by omega]; rfl
     clear hodd
     go_wp2_with (first | (go_at_call 95; refine (HM.out _ _ (by first | exact HF.out | exact HF.out.drewN _) (by first | exact HB.out | exact HB.out.drewN _)).mono ?_; rintro e w3 ⟨rfl, q1, q2⟩))
     exact ⟨⟨_, _, m1 / 2, rfl, rfl, by rw [show ((m1 / 2 : Nat) : Int) = (m1 : Int) / 2 by omega], by omega, HR1, ⟨q1⟩, ⟨HB.out.trans q2⟩⟩, by simp [intOf]; omega⟩
   ·obtain rfl : m1 = 0 := by omega
    obtain rfl := HR.out.done HW.out
    go_wp2
    go_ret
    exact ⟨rfl, HF.out, HB.out⟩
 ·have hin' : inF wb a = false := by simpa using hin
  rw [hin'] at HC
  rw [gpow_out (by simp [hin'])]
  clear hin hin'
  go_enter Tryz.func112, Tryz.ntmps112
  go_wp2_with (first | (go_at_call 141; refine HC.out.mono ?_; rintro e w9 ⟨rfl, m9, rfl⟩))
  go_ret
  exact ⟨rfl, HF.out.drewN _, HB.out.drewN _⟩
set_option maxRecDepth 100000 in
set_option maxHeartbeats 1600000 in
theorem gf_Inv.calls (g : Nat) (S : Nat → Prop) (wb a : Int) (W : World) (hw : wb = 8 ∨ wb = 16) (hF : Fd W g wb (fpoly wb) S) (hS : ∀ k, S k → k < W.heap.size) :
  Calls Tryz.prog 104 #[.pointer (some ⟨g, 0, none⟩), .int .i64 a] W fun e w' => e = .returned (.tuple #[.int .i64 (ginv wb a), .bool (inF wb a && a != 0)]) ∧ Fd w' g wb (fpoly wb) S ∧ BB W w' g := by
 have HC := Aside0.mk (gf_in.calls g wb (fpoly wb) S (some ⟨W.heap.size, 0, none⟩) 1 [a] _ (hF.alloc (.cells #[.int .i64 a] 3)) hw (C_nums (t := 3) (heap_alloc_new _ _) (by simp)) (by simp))
 rw [allIn_one] at HC
 have HF := Aside0.mk (hF.alloc (.cells #[.int .i64 a] 3))
 have HB := Aside0.mk ((BB.refl W g).alloc (.cells #[.int .i64 a] 3))
 have HS := Aside0.mk (show ∀ k, S k → k < (W.alloc (.cells #[.int .i64 a] 3)).heap.size from fun k hk => by have := hS k hk; simp; omega)
 have HW := Aside0.mk hw
 have HSZ : ∃ n : Nat, fsize wb = ((n : Nat) : Int) + 2 ∧ n ≤ 1000000 := by rcases hw with rfl | rfl; exact ⟨254, rfl, by omega⟩; exact ⟨65534, rfl, by omega⟩
 obtain ⟨n, hz, hn⟩ := HSZ
 clear hF hS hw
 by_cases hin : inF wb a = true
 ·by_cases h0 : a = 0
  ·subst h0
   rw [hin] at HC
   have e1 : ginv wb 0 = 0 := by simp [ginv]
   have e2 : (inF wb 0 && (0 : Int) != 0) = false := by simp
   rw [e1, e2]
   clear hin hz e1 e2
   go_enter Tryz.func104, Tryz.ntmps104
   go_wp2_with (first | (go_at_call 141; refine HC.out.mono ?_; rintro e w9 ⟨rfl, m9, rfl⟩))
   go_ret2
   exact ⟨rfl, HF.out.drewN _, HB.out.drewN _⟩
  ·rw [hin] at HC
   have e1 : ginv wb a = gpow wb a n := by
    have : (a != 0) = true := by simpa using h0
    simp only [ginv, hin, this, Bool.and_self, if_true]
    rw [hz, Int.add_sub_cancel]
   have e2 : (inF wb a && a != 0) = true := by simp [hin, h0]
   rw [e1, e2]
   have z1 : (a == 0) = false := beq_eq_false_iff_ne.2 h0
   have hs : IntKind.i64.wrap (fsize wb - 2) = (n : Int) := by rw [hz, IntKind.wrap_i64]; omega
   have hs' : wrap64 (fsize wb - 2) = (n : Int) := by rw [hz]; unfold wrap64; omega
   clear hin hz e1 e2 h0
   go_enter Tryz.func104, Tryz.ntmps104
   go_wp2_with (first | (go_at_call 141; refine HC.out.mono ?_; rintro e w9 ⟨rfl, m9, rfl⟩) | (go_at_call 140; refine (gf_Size.calls g wb (fpoly wb) S _ (HF.out.drewN _) HW.out).mono ?_; rintro e w9 ⟨rfl, m8, rfl⟩) | (go_at_call 112; refine (gf_Pow.calls g S wb a n _ hn HW.out (HF.out.drewN _) HS.out).mono ?_; rintro e w9 ⟨rfl, q1, q2⟩))
   go_ret2
   exact ⟨rfl, q1, (HB.out.drewN _).trans q2⟩
 ·have hin' : inF wb a = false := by simpa using hin
  rw [hin'] at HC
  have e1 : ginv wb a = 0 := by simp [ginv, hin']
  rw [e1]
  have e2 : (false && a != 0) = false := rfl
  rw [hin', e2]
  clear hin hin' hz e1 e2
  go_enter Tryz.func104, Tryz.ntmps104
  go_wp2_with (first | (go_at_call 141; refine HC.out.mono ?_; rintro e w9 ⟨rfl, m9, rfl⟩))
  go_ret2
  exact ⟨rfl, HF.out.drewN _, HB.out.drewN _⟩
end Go.Proofs.YtelcllhibpnneaaGreat.XCo
end
section
namespace Go.Proofs.YtelcllhibpnneaaGreat.XCo
open Go.RowKit Go.Proofs.YtelcllhibpnneaaGreatW.PrintWords Go.Proofs.YtelcllhibpnneaaGreatW.PrintLast Go.Proofs.YtelcllhibpnneaaGreatW.PrintMore
attribute [local go_sem] max2_int min2_int max_two min_two max_three min_three max_four min_four
set_option linter.unusedVariables false
set_option linter.unusedSimpArgs false
open Go.Maps Go.WideMaps
def MapSet (w : World) (B : Nat) (l : List Int) : Prop :=
 ∃ D : DataW Unit, w.ownsMap Tryz.prog 3 (plainElem Tryz.prog 4) B l.length D ∧ Maps.IsMap D ∧
  ∀ x : Int, D.atKey (.int .i64 x) (.lit (.bool false)) = .lit (.bool (decide (x ∈ l)))
theorem lawI : Keyed Tryz.prog 3 := int_keyed Tryz.underlying3
theorem zeroB (w : World) : (zeroValue 4).run Tryz.prog w = .ok (.bool false) w := by kernel_rfl
theorem MapSet.made (w : World) : MapSet (w.alloc (.map #[] 0)) w.heap.size [] :=
 ⟨.map [], World.ownsMap_made w Tryz.prog 3 _, Maps.isMap_empty, fun s => rfl⟩
theorem MapSet.put {w : World} {B : Nat} {l : List Int} {D : DataW Unit} {x : Int} (hm : Maps.IsMap D) (hd : ∀ s : Int, D.atKey (.int .i64 s) (.lit (.bool false)) = .lit (.bool (decide (s ∈ l))))
  (h : w.ownsMap Tryz.prog 3 (plainElem Tryz.prog 4) B (l.length + 1) (D.put (.int .i64 x) (.lit (.bool true)))) : MapSet w B (l ++ [x]) := by
 refine ⟨_, by simpa using h, hm.put _ _, fun s => ?_⟩
 by_cases hx : x = s
 ·subst hx
  rw [Maps.atKey_put_same hm (by trivial)]
  simp
 ·rw [Maps.atKey_put_other (fun h => hx (by injection h with _ h; exact h.symm)), hd s]
  simp [Ne.symm hx]
theorem MapSet.look {w : World} {B : Nat} {l : List Int} (h : MapSet w B l) {x : Int} (hw : (Lit.int .i64 x).wf = true) (hx : x ∉ l) : (Instr.lookup 188 (.map (some B)) (.int .i64 x) false).run Tryz.prog w = .ok (.bool false) w := by
 obtain ⟨D, ho, hm, hd⟩ := h
 obtain ⟨v, ps, hrun, hv⟩ := ho.lookup lawI Tryz.underlying188 (zeroB w) (plainElem_bool Tryz.underlying4 false) (keyOf_int_mk Tryz.underlying3 hw)
 rw [hd x, decide_eq_false hx] at hv
 rw [hrun]
 unfold plainElem at hv
 rw [show Tryz.prog.underlying 4 = some .bool from Tryz.underlying4] at hv
 cases v <;> simp at hv
 rw [hv.1]
theorem MapSet.grow {w w1 : World} {B : Nat} {l : List Int} {row : Option Nat} (h : MapSet w B l) (hg : w.grownBy w1 row) (hne : some B ≠ row) : MapSet w1 B l := by
 obtain ⟨D, ho, r⟩ := h
 exact ⟨D, ho.kept hg hne, r⟩
theorem grown_of_b {w w1 : World} (h : Below w.heap.size w w1) : w.grownBy w1 none := ⟨h.os, h.tape, h.output, h.size, fun k hk _ => h.block k hk⟩
theorem MapSet.below {w w1 : World} {B : Nat} {l : List Int} (h : MapSet w B l) (hb : Below w.heap.size w w1) : MapSet w1 B l := h.grow (grown_of_b hb) (by simp)
theorem MapSet.noncells {w : World} {B : Nat} {l : List Int} (h : MapSet w B l) : ∃ o : Obj, w.heap[B]? = some o ∧ o.isCells = false := by
 obtain ⟨D, ⟨es, clock, hb, -⟩, -⟩ := h
 exact ⟨_, hb, rfl⟩
end Go.Proofs.YtelcllhibpnneaaGreat.XCo
end
section
namespace Go.Proofs.YtelcllhibpnneaaGreat.XCo
open Go.RowKit Go.Proofs.YtelcllhibpnneaaGreatW.PrintWords Go.Proofs.YtelcllhibpnneaaGreatW.PrintLast Go.Proofs.YtelcllhibpnneaaGreatW.PrintMore
attribute [local go_sem] max2_int min2_int max_two min_two max_three min_three max_four min_four
set_option linter.unusedVariables false
set_option linter.unusedSimpArgs false
structure Mx (W : World) (o : Nat) (bs : List (Nat × Nat)) (rows : List (List Int)) : Prop where
 len : bs.length = rows.length
 outer : ∃ co : Array Value, W.heap[o]? = some (.cells co 66 (0, 0)) ∧ ∀ (i : Nat) (b c : Nat) (row : List Int), bs[i]? = some (b, c) → rows[i]? = some row → co[i]? = some (.slice (some ⟨b, 0, none⟩) row.length c)
 inner : ∀ (i : Nat) (b c : Nat) (row : List Int), bs[i]? = some (b, c) → rows[i]? = some row → row.length ≤ c ∧ ∃ cs : Array Value, W.heap[b]? = some (.cells cs 3 (0, 0)) ∧ ∀ (j : Nat) (x : Int), row[j]? = some x → cs[j]? = some (.int .i64 x)
 nodup : (bs.map Prod.fst).Nodup
structure BS (w w' : World) (g : Nat) (S : Nat → Prop) : Prop where
 os : w'.os = w.os
 tape : w'.tape = w.tape
 output : w'.output = w.output
 size : w.heap.size ≤ w'.heap.size
 block : ∀ i, i < w.heap.size → i ≠ g → ¬ S i → w'.heap[i]? = w.heap[i]?
namespace BS
variable {a b c : World} {g : Nat} {S : Nat → Prop}
theorem refl (w : World) (g : Nat) (S : Nat → Prop) : BS w w g S := ⟨rfl, rfl, rfl, Nat.le_refl _, fun _ _ _ _ => rfl⟩
theorem trans (h : BS a b g S) (k : BS b c g S) : BS a c g S :=
 ⟨k.os.trans h.os, k.tape.trans h.tape, k.output.trans h.output, Nat.le_trans h.size k.size, fun i hi hg hs => (k.block i (Nat.lt_of_lt_of_le hi h.size) hg hs).trans (h.block i hi hg hs)⟩
theorem of_bb (h : BB a b g) : BS a b g S := ⟨h.os, h.tape, h.output, h.size, fun i hi hg _ => h.block i hi hg⟩
theorem drewN (h : BS a b g S) (n : Nat) : BS a (b.drewN n) g S := ⟨h.os, h.tape, h.output, h.size, h.block⟩
theorem drew (h : BS a b g S) : BS a b.drew g S := ⟨h.os, h.tape, h.output, h.size, h.block⟩
theorem alloc (h : BS a b g S) (o : Obj) : BS a (b.alloc o) g S := h.trans (of_bb (BB.of_below (below_alloc (Below.refl _ _) o) g))
theorem set (h : BS a b g S) {p : Addr} (hp : S p.block ∨ a.heap.size ≤ p.block) (u : Value) : BS a (b.setCell p u) g S :=
 ⟨h.os, h.tape, h.output, by simpa using h.size, fun i hi hg hs => (Below.heap_setCell b p u i (fun e => by rcases hp with hp | hp; exact hs (e ▸ hp); omega)).trans (h.block i hi hg hs)⟩
theorem blk (h : BS a b g S) {k : Nat} {o : Obj} (hk : a.heap[k]? = some o) (hg : k ≠ g) (hs : ¬ S k) : b.heap[k]? = some o := (h.block k (blk_lt hk) hg hs).trans hk
end BS
theorem cell_bb {a b : World} {g : Nat} (h : BB a b g) {p : Addr} {v : Value} (hp : a.cell? p = some v) (hg : p.block ≠ g) : b.cell? p = some v :=
 (World.cell?_of_block (h.block p.block (World.block_lt_of_cell? _ _ hp) hg)).trans hp
theorem froz_bb {a b : World} {g : Nat} (h : BB a b g) {p : Addr} (hlt : p.block < a.heap.size) (hp : a.frozen? p = false) (hg : p.block ≠ g) : b.frozen? p = false := by
 have := h.block p.block hlt hg
 unfold World.frozen? at *
 rw [this]; exact hp
namespace Mx
variable {W W1 : World} {o : Nat} {bs : List (Nat × Nat)} {rows : List (List Int)}
theorem cell_o (h : Mx W o bs rows) {i b c : Nat} {row : List Int} (hb : bs[i]? = some (b, c)) (hr : rows[i]? = some row) : W.cell? ⟨o, i, none⟩ = some (.slice (some ⟨b, 0, none⟩) row.length c) := by
 obtain ⟨co, h1, h2⟩ := h.outer
 rw [blk_cell h1 i]; exact h2 i b c row hb hr
theorem froz_o (h : Mx W o bs rows) (i : Nat) : W.frozen? ⟨o, i, none⟩ = false := by
 obtain ⟨co, h1, h2⟩ := h.outer
 exact blk_frozen h1 i
theorem lt_o (h : Mx W o bs rows) : o < W.heap.size := by
 obtain ⟨co, h1, h2⟩ := h.outer
 exact blk_lt h1
theorem cell_i (h : Mx W o bs rows) {i b c j : Nat} {row : List Int} {x : Int} (hb : bs[i]? = some (b, c)) (hr : rows[i]? = some row) (hx : row[j]? = some x) : W.cell? ⟨b, j, none⟩ = some (.int .i64 x) := by
 obtain ⟨-, cs, h1, h2⟩ := h.inner i b c row hb hr
 rw [blk_cell h1 j]; exact h2 j x hx
theorem froz_i (h : Mx W o bs rows) {i b c : Nat} (hb : bs[i]? = some (b, c)) (j : Nat) : W.frozen? ⟨b, j, none⟩ = false := by
 obtain ⟨row, hr⟩ : ∃ row, rows[i]? = some row := ⟨_, List.getElem?_eq_getElem (by have := (List.getElem?_eq_some_iff.1 hb).1; have := h.len; omega)⟩
 obtain ⟨-, cs, h1, h2⟩ := h.inner i b c row hb hr
 exact blk_frozen h1 j
theorem lt_i (h : Mx W o bs rows) {i b c : Nat} (hb : bs[i]? = some (b, c)) : b < W.heap.size := by
 obtain ⟨row, hr⟩ : ∃ row, rows[i]? = some row := ⟨_, List.getElem?_eq_getElem (by have := (List.getElem?_eq_some_iff.1 hb).1; have := h.len; omega)⟩
 obtain ⟨-, cs, h1, h2⟩ := h.inner i b c row hb hr
 exact blk_lt h1
theorem ne_o (h : Mx W o bs rows) {i b c : Nat} (hb : bs[i]? = some (b, c)) : b ≠ o := by
 obtain ⟨row, hr⟩ : ∃ row, rows[i]? = some row := ⟨_, List.getElem?_eq_getElem (by have := (List.getElem?_eq_some_iff.1 hb).1; have := h.len; omega)⟩
 obtain ⟨-, cs, h1, h2⟩ := h.inner i b c row hb hr
 obtain ⟨co, h3, h4⟩ := h.outer
 rintro rfl
 rw [h1] at h3
 injection h3 with h3
 injection h3 with _ h3
 exact absurd h3 (by decide)
theorem ne_ij (h : Mx W o bs rows) {i j b c b' c' : Nat} (hb : bs[i]? = some (b, c)) (hb' : bs[j]? = some (b', c')) (hij : i ≠ j) : b ≠ b' := by
 have h1 : (bs.map Prod.fst)[i]? = some b := by rw [List.getElem?_map, hb]; rfl
 have h2 : (bs.map Prod.fst)[j]? = some b' := by rw [List.getElem?_map, hb']; rfl
 rintro rfl
 obtain ⟨hi, e1⟩ := List.getElem?_eq_some_iff.1 h1
 obtain ⟨hj, e2⟩ := List.getElem?_eq_some_iff.1 h2
 have hp := List.pairwise_iff_getElem.1 h.nodup
 rcases Nat.lt_or_gt_of_ne hij with hlt | hlt
 ·exact hp i j hi hj hlt (e1.trans e2.symm)
 ·exact hp j i hj hi hlt (e2.trans e1.symm)
theorem move (h : Mx W o bs rows) (ho : W1.heap[o]? = W.heap[o]?) (hb : ∀ (i b c : Nat), bs[i]? = some (b, c) → W1.heap[b]? = W.heap[b]?) : Mx W1 o bs rows := by
 obtain ⟨h1, ⟨co, h2, h3⟩, h4, h5⟩ := h
 refine ⟨h1, ⟨co, ho.trans h2, h3⟩, fun i b c row hi hr => ?_, h5⟩
 obtain ⟨hc, cs, h6, h7⟩ := h4 i b c row hi hr
 exact ⟨hc, cs, (hb i b c hi).trans h6, h7⟩
theorem below (h : Mx W o bs rows) (hb : Below W.heap.size W W1) : Mx W1 o bs rows := h.move (hb.block _ h.lt_o) (fun _ _ _ hi => hb.block _ (h.lt_i hi))
theorem alloc (h : Mx W o bs rows) (x : Obj) : Mx (W.alloc x) o bs rows := h.below (below_alloc (Below.refl _ _) x)
theorem drewN (h : Mx W o bs rows) (n : Nat) : Mx (W.drewN n) o bs rows := h.move rfl (fun _ _ _ _ => rfl)
theorem drew (h : Mx W o bs rows) : Mx W.drew o bs rows := h.move rfl (fun _ _ _ _ => rfl)
theorem ne_g (h : Mx W o bs rows) {g : Nat} {cs : Array Value} (hg : W.heap[g]? = some (.cells cs 165 (0, 0))) : o ≠ g ∧ ∀ (i b c : Nat), bs[i]? = some (b, c) → b ≠ g := by
 refine ⟨?_, fun i b c hb => ?_⟩
 ·obtain ⟨co, h3, h4⟩ := h.outer
  rintro rfl
  rw [hg] at h3
  injection h3 with h3
  injection h3 with _ h3
  exact absurd h3 (by decide)
 ·obtain ⟨row, hr⟩ : ∃ row, rows[i]? = some row := ⟨_, List.getElem?_eq_getElem (by have := (List.getElem?_eq_some_iff.1 hb).1; have := h.len; omega)⟩
  obtain ⟨-, cs, h1, h2⟩ := h.inner i b c row hb hr
  rintro rfl
  rw [hg] at h1
  injection h1 with h1
  injection h1 with _ h1
  exact absurd h1 (by decide)
theorem bb (h : Mx W o bs rows) {g : Nat} (hg : o ≠ g ∧ ∀ (i b c : Nat), bs[i]? = some (b, c) → b ≠ g) (hb : BB W W1 g) : Mx W1 o bs rows := h.move (hb.block _ h.lt_o hg.1) (fun i b c hi => hb.block _ (h.lt_i hi) (hg.2 i b c hi))
theorem set (h : Mx W o bs rows) {i b c j : Nat} {row : List Int} (hb : bs[i]? = some (b, c)) (hr : rows[i]? = some row) (x : Int) : Mx (W.setCell ⟨b, j, none⟩ (.int .i64 x)) o bs (rows.set i (row.set j x)) := by
 have hne := h.ne_o hb
 refine ⟨by rw [List.length_set]; exact h.len, ?_, fun k b' c' row' hk hr' => ?_, h.nodup⟩
 ·obtain ⟨co, h1, h2⟩ := h.outer
  refine ⟨co, blk_far h1 (Ne.symm hne) _, fun k b' c' row' hk hr' => ?_⟩
  by_cases hki : i = k
  ·subst hki
   have : row.set j x = row' := by
    rw [List.getElem?_set_self (List.getElem?_eq_some_iff.1 hr).1] at hr'
    exact Option.some.inj hr'
   rw [← this, List.length_set]
   exact h2 _ _ _ _ hk hr
  ·rw [List.getElem?_set_ne hki] at hr'
   exact h2 k b' c' row' hk hr'
 ·by_cases hki : i = k
  ·subst hki
   rw [hb] at hk
   injection hk with hk
   injection hk with e1 e2
   subst e1
   subst e2
   have e : row.set j x = row' := by
    rw [List.getElem?_set_self (List.getElem?_eq_some_iff.1 hr).1] at hr'
    exact Option.some.inj hr'
   subst e
   obtain ⟨hc, cs, h1, h2⟩ := h.inner i b c row hb hr
   refine ⟨by rw [List.length_set]; exact hc, _, blk_set h1 j _, fun j' x' hx' => ?_⟩
   by_cases hj : j = j'
   ·subst hj
    obtain ⟨hlt, e⟩ := List.getElem?_eq_some_iff.1 hx'
    rw [List.length_set] at hlt
    rw [List.getElem_set_self] at e
    subst e
    have := h2 j _ (List.getElem?_eq_getElem hlt)
    have hl := (Array.getElem?_eq_some_iff.1 this).1
    simp [hl]
   ·rw [List.getElem?_set_ne hj] at hx'
    rw [Array.getElem?_setIfInBounds_ne hj]
    exact h2 j' x' hx'
  ·rw [List.getElem?_set_ne hki] at hr'
   obtain ⟨hc, cs, h1, h2⟩ := h.inner k b' c' row' hk hr'
   exact ⟨hc, cs, blk_far h1 (Ne.symm (h.ne_ij hb hk hki)) _, h2⟩
end Mx
end Go.Proofs.YtelcllhibpnneaaGreat.XCo
end
section
namespace Go.Proofs.YtelcllhibpnneaaGreat.XCo
open Go.RowKit Go.Proofs.YtelcllhibpnneaaGreatW.PrintWords Go.Proofs.YtelcllhibpnneaaGreatW.PrintLast Go.Proofs.YtelcllhibpnneaaGreatW.PrintMore
attribute [local go_sem] max2_int min2_int max_two min_two max_three min_three max_four min_four
set_option linter.unusedVariables false
set_option linter.unusedSimpArgs false
theorem Fd.typed {W : World} {g : Nat} {wb p : Int} {S : Nat → Prop} (h : Fd W g wb p S) : ∃ cs, W.heap[g]? = some (.cells cs 165 (0, 0)) := by
 obtain ⟨-, h | ⟨-, -, a, b, h, -⟩⟩ := h
 ·exact ⟨_, h⟩
 ·exact ⟨_, h⟩
def mid (f : Int → Int → Int) (row pr : List Int) (k : Nat) : List Int := (List.zipWith f row pr).take k ++ row.drop k
theorem mid_zero (f : Int → Int → Int) (row pr : List Int) : mid f row pr 0 = row := by simp [mid]
theorem mid_length (f : Int → Int → Int) (row pr : List Int) (k : Nat) (hk : k ≤ row.length) (hl : row.length = pr.length) : (mid f row pr k).length = row.length := by
 simp only [mid, List.length_append, List.length_take, List.length_zipWith, List.length_drop]; omega
theorem mid_at (f : Int → Int → Int) (row pr : List Int) (k : Nat) (x : Int) (hx : row[k]? = some x) (hl : row.length = pr.length) : (mid f row pr k)[k]? = some x := by
 have hk := (List.getElem?_eq_some_iff.1 hx).1
 unfold mid
 rw [List.getElem?_append_right (by simp; omega)]
 simp [List.length_take, List.length_zipWith, ← hl]
 rw [Nat.min_eq_left (by omega), Nat.sub_self, Nat.add_zero]
 exact hx
theorem mid_step (f : Int → Int → Int) (row pr : List Int) (k : Nat) (x y : Int) (hx : row[k]? = some x) (hy : pr[k]? = some y) (hl : row.length = pr.length) : (mid f row pr k).set k (f x y) = mid f row pr (k + 1) := by
 have hk := (List.getElem?_eq_some_iff.1 hx).1
 have hz : (List.zipWith f row pr)[k]? = some (f x y) := by simp [List.getElem?_zipWith, hx, hy]
 unfold mid
 rw [List.set_append_right _ _ (by simp; omega)]
 have e : k - ((List.zipWith f row pr).take k).length = 0 := by simp [List.length_take, List.length_zipWith, ← hl]; omega
 rw [e, List.drop_eq_getElem_cons hk, List.set_cons_zero, List.take_add_one, hz, List.append_assoc]
 rfl
theorem mid_full (f : Int → Int → Int) (row pr : List Int) (hl : row.length = pr.length) : mid f row pr row.length = List.zipWith f row pr := by
 unfold mid
 rw [List.drop_length, List.append_nil, List.take_of_length_le (by rw [List.length_zipWith]; exact Nat.min_le_left _ _)]
structure Rd (W : World) (g fb ab tb o : Nat) (wb : Int) (S : Nat → Prop) (m co : Nat) (at_ : Int) : Prop where
 f : W.heap[fb]? = some (.cells #[.pointer (some ⟨g, 0, none⟩)] 64 (0, 0))
 a : W.heap[ab]? = some (.cells #[.slice (some ⟨o, 0, none⟩) m co] 61 (0, 0))
 t : W.heap[tb]? = some (.cells #[.int .i64 at_] 3 (0, 0))
 fS : ¬ S fb
 aS : ¬ S ab
 tS : ¬ S tb
 fg : fb ≠ g
 ag : ab ≠ g
 tg : tb ≠ g
theorem Rd.bs {W W1 : World} {g fb ab tb o : Nat} {wb : Int} {S : Nat → Prop} {m co : Nat} {at_ : Int} (h : Rd W g fb ab tb o wb S m co at_) (hb : BS W W1 g S) : Rd W1 g fb ab tb o wb S m co at_ :=
 ⟨hb.blk h.f h.fg h.fS, hb.blk h.a h.ag h.aS, hb.blk h.t h.tg h.tS, h.fS, h.aS, h.tS, h.fg, h.ag, h.tg⟩
def clrF (wb n : Int) : Int → Int → Int := fun x y => Go.bits .xor .i64 x (gmul wb n y)
theorem set_same {α : Type} {l : List α} {i : Nat} {x : α} (h : l[i]? = some x) : l.set i x = l := by
 obtain ⟨hi, rfl⟩ := List.getElem?_eq_some_iff.1 h
 simp
def S6 (fb ab tb g o m co at_ ba L ca bi k : Nat) (x y : Int) (W' : World) : Prop := W'.cell? ⟨fb, 0, none⟩ = some (.pointer (some ⟨g, 0, none⟩)) ∧ W'.cell? ⟨ab, 0, none⟩ = some (.slice (some ⟨o, 0, none⟩) m co) ∧ W'.cell? ⟨tb, 0, none⟩ = some (.int .i64 (at_ : Int)) ∧ W'.cell? ⟨o, at_, none⟩ = some (.slice (some ⟨ba, 0, none⟩) L ca) ∧ W'.cell? ⟨ba, k, none⟩ = some (.int .i64 y) ∧ W'.cell? ⟨bi, k, none⟩ = some (.int .i64 x)
theorem S6.bb {fb ab tb g o m co at_ ba L ca bi k : Nat} {x y : Int} {W W1 : World} (hne : fb ≠ g ∧ ab ≠ g ∧ tb ≠ g ∧ o ≠ g ∧ ba ≠ g ∧ bi ≠ g) (h : S6 fb ab tb g o m co at_ ba L ca bi k x y W) (hb : BB W W1 g) : S6 fb ab tb g o m co at_ ba L ca bi k x y W1 :=
 ⟨cell_bb hb h.1 hne.1, cell_bb hb h.2.1 hne.2.1, cell_bb hb h.2.2.1 hne.2.2.1, cell_bb hb h.2.2.2.1 hne.2.2.2.1, cell_bb hb h.2.2.2.2.1 hne.2.2.2.2.1, cell_bb hb h.2.2.2.2.2 hne.2.2.2.2.2⟩
theorem S6.drew {fb ab tb g o m co at_ ba L ca bi k : Nat} {x y : Int} {W : World} (h : S6 fb ab tb g o m co at_ ba L ca bi k x y W) : S6 fb ab tb g o m co at_ ba L ca bi k x y W.drew := h
theorem S6.drewN {fb ab tb g o m co at_ ba L ca bi k : Nat} {x y : Int} {W : World} (h : S6 fb ab tb g o m co at_ ba L ca bi k x y W) (n : Nat) : S6 fb ab tb g o m co at_ ba L ca bi k x y (W.drewN n) := h
set_option maxRecDepth 100000 in
set_option maxHeartbeats 1600000 in
theorem clear.calls (g fb ab tb o : Nat) (wb : Int) (S S0 : Nat → Prop) (m co i at_ bi ci ba ca c L : Nat) (n : Int) (bs : List (Nat × Nat)) (rows : List (List Int)) (row pr : List Int) (W : World) (hw : wb = 8 ∨ wb = 16) (hF : Fd W g wb (fpoly wb) S) (hS : ∀ k, S k → k < W.heap.size)
  (hM : Mx W o bs rows) (hSb : ∀ (i b c : Nat), bs[i]? = some (b, c) → S0 b) (hS0 : ∀ k, S0 k → S k) (hR : Rd W g fb ab tb o wb S0 m co (at_ : Int)) (hmm : at_ < m) (hbi : bs[i]? = some (bi, ci)) (hri : rows[i]? = some row) (hba : bs[at_]? = some (ba, ca)) (hra : rows[at_]? = some pr) (hia : i ≠ at_) (hl : row.length = L) (hl' : pr.length = L) (hll : L ≤ 1000) (hc : row[c]? = some n) :
  Calls Tryz.prog 163 #[.slice (some ⟨bi, 0, none⟩) L ci, .int .i64 (c : Int), .pointer (some ⟨fb, 0, none⟩), .pointer (some ⟨ab, 0, none⟩), .pointer (some ⟨tb, 0, none⟩)] W fun e w' => e = .returned (.tuple #[]) ∧ Mx w' o bs (rows.set i (List.zipWith (clrF wb n) row pr)) ∧ Fd w' g wb (fpoly wb) S ∧ BS W w' g S0 := by
 have HW := Aside0.mk hw
 have HS := Aside0.mk hS
 have HSB := Aside0.mk hSb
 have HS0 := Aside0.mk hS0
 have HF := Aside0.mk hF
 have HR := Aside0.mk hR
 have HBI := Aside0.mk hbi
 have HRI := Aside0.mk hri
 have HBA := Aside0.mk hba
 have HRA := Aside0.mk hra
 have HM := Aside0.mk (show Mx W o bs (rows.set i (mid (clrF wb n) row pr 0)) by
  rw [mid_zero, set_same hri]; exact hM)
 have hcl : c < row.length := (List.getElem?_eq_some_iff.1 hc).1
 have hc0 : W.cell? ⟨bi, c, none⟩ = some (.int .i64 n) := hM.cell_i hbi hri hc
 obtain ⟨gcs, hgcs⟩ := hF.typed
 have hng := hM.ne_g hgcs
 have hne6 : fb ≠ g ∧ ab ≠ g ∧ tb ≠ g ∧ o ≠ g ∧ ba ≠ g ∧ bi ≠ g := ⟨hR.fg, hR.ag, hR.tg, hng.1, hng.2 _ _ _ hba, hng.2 _ _ _ hbi⟩
 have HNE := Aside0.mk hne6
 have HNG := Aside0.mk hng
 have HL := Aside0.mk hl
 have HLP := Aside0.mk hl'
 have c1 : (0 : Int) ≤ (c : Int) := by omega
 have c2 : (c : Int) < (L : Int) := by omega
 have m1 : (0 : Int) ≤ (at_ : Int) := by omega
 have m2 : (at_ : Int) < (m : Int) := by omega
 clear hw hS hSb hS0 hF hR hM hbi hri hba hra hc hgcs hng hne6 hcl hl hl'
 go_enter Tryz.func163, Tryz.ntmps163
 go_wp2
 go_loopw [15] (fun j wr => ∃ k : Nat, k ≤ L ∧ j = .int .i64 (k : Int) ∧ Aside0 (Mx wr o bs (rows.set i (mid (clrF wb n) row pr k))) ∧ Aside0 (Fd wr g wb (fpoly wb) S) ∧ Aside0 (BS W wr g S0)) (fun j _ => L - (intOf j).toNat)
 case atStart => exact ⟨0, Nat.zero_le _, rfl, HM, HF, ⟨BS.refl _ _ _⟩⟩
 case round =>
  clear HM HF hc0
  obtain ⟨k, hk, rfl, HM, HF, HB⟩ := hrel
  by_cases hlt : k < L
  ·obtain ⟨x, hx⟩ : ∃ x, row[k]? = some x := ⟨_, List.getElem?_eq_getElem (by have := HL.out; omega)⟩
   obtain ⟨y, hy⟩ : ∃ y, pr[k]? = some y := ⟨_, List.getElem?_eq_getElem (by have := HLP.out; omega)⟩
   have HLL := Aside0.mk (HL.out.trans HLP.out.symm)
   have hilt : i < rows.length := (List.getElem?_eq_some_iff.1 HRI.out).1
   have hself : (rows.set i (mid (clrF wb n) row pr k))[i]? = some (mid (clrF wb n) row pr k) := List.getElem?_set_self hilt
   have hat : (rows.set i (mid (clrF wb n) row pr k))[at_]? = some pr := by rw [List.getElem?_set_ne hia]; exact HRA.out
   have hRw := HR.out.bs HB.out
   have h6 : S6 fb ab tb g o m co at_ ba L ca bi k x y wr := ⟨(blk_cell hRw.f 0).trans rfl, (blk_cell hRw.a 0).trans rfl, (blk_cell hRw.t 0).trans rfl, by rw [HM.out.cell_o HBA.out hat, HLP.out], HM.out.cell_i HBA.out hat hy, HM.out.cell_i HBI.out hself (mid_at _ _ _ _ _ hx HLL.out)⟩
   have HSTEP := Aside0.mk (mid_step (clrF wb n) row pr k x y hx hy HLL.out)
   have HSELF := Aside0.mk hself
   have h6' := h6
   obtain ⟨k1, k2, k3, k4, k5, k6⟩ := h6'
   have hz := HM.out.froz_i HBI.out k
   have hbl := HM.out.lt_i HBI.out
   have HFR := Aside0.mk (fun (w3 : World) (h : BB wr w3 g) => froz_bb h (p := ⟨bi, k, none⟩) hbl hz HNE.out.2.2.2.2.2)
   have n1 : (0 : Int) ≤ (k : Int) := by omega
   have n2 : (k : Int) < (L : Int) := by omega
   have HSS := Aside0.mk (show ∀ k, S k → k < wr.drew.heap.size from fun k hk => Nat.lt_of_lt_of_le (HS.out k hk) HB.out.size)
   clear hx hy hself hat hRw hz
   go_wp2_with fail
   refine start_ (n := 17) (S := fun w' => w'.cell? ⟨fb, 0, none⟩ = some (.pointer (some ⟨g, 0, none⟩)) ∧ w'.cell? ⟨ab, 0, none⟩ = some (.slice (some ⟨o, 0, none⟩) m co) ∧ w'.cell? ⟨tb, 0, none⟩ = some (.int .i64 (at_ : Int)) ∧ w'.cell? ⟨o, at_, none⟩ = some (.slice (some ⟨ba, 0, none⟩) L ca) ∧ w'.cell? ⟨ba, k, none⟩ = some (.int .i64 y) ∧ w'.cell? ⟨bi, k, none⟩ = some (.int .i64 x)) (ds := [16]) #[false, false, false, false, false, false, false, false, false, false, false, false, false, false, false, false, false] (by kernel_rfl) rfl rfl ⟨k1, k2, k3, k4, k5, k6⟩ (fun hHeld => ?_)
   refine pure_ (i := 0) (N := some 18) (v := ?_) (a' := ?_) #[true, false, false, false, false, false, false, false, false, false, false, false, false, false, false, false, false] rfl rfl (by kernel_rfl) (fun _ _ _ h => h) (Or.inl ⟨by rfl, ?_⟩) ?_ ?_
   rotate_left
   ·intro w'
    go_simp
    with_reducible rfl
   rotate_left
   ·simp only [Act.put, List.setIfInBounds_toArray, List.set_cons_zero, List.set_cons_succ, i64_w, i32_w]
    rfl
   refine pure_ (i := 1) (N := some 19) (v := ?_) (a' := ?_) #[true, true, false, false, false, false, false, false, false, false, false, false, false, false, false, false, false] rfl rfl (by kernel_rfl) (fun _ _ _ h => h) (Or.inl ⟨by rfl, ?_⟩) ?_ ?_
   rotate_left
   ·intro w'
    go_simp
    with_reducible rfl
   rotate_left
   ·simp only [Act.put, List.setIfInBounds_toArray, List.set_cons_zero, List.set_cons_succ, i64_w, i32_w]
    rfl
   refine pure_ (i := 2) (N := some 20) (v := ?_) (a' := ?_) #[true, true, true, false, false, false, false, false, false, false, false, false, false, false, false, false, false] rfl rfl (by kernel_rfl) (fun _ _ _ h => h) (Or.inl ⟨by rfl, ?_⟩) ?_ ?_
   rotate_left
   ·intro w'
    go_simp
    with_reducible rfl
   rotate_left
   ·simp only [Act.put, List.setIfInBounds_toArray, List.set_cons_zero, List.set_cons_succ, i64_w, i32_w]
    rfl
   refine pure_ (i := 5) (N := some 23) (v := ?_) (a' := ?_) #[true, true, true, false, false, true, false, false, false, false, false, false, false, false, false, false, false] rfl rfl (by kernel_rfl) (fun _ _ _ h => h) (Or.inl ⟨by rfl, ?_⟩) ?_ ?_
   rotate_left
   ·intro w'
    go_simp
    with_reducible rfl
   rotate_left
   ·simp only [Act.put, List.setIfInBounds_toArray, List.set_cons_zero, List.set_cons_succ, i64_w, i32_w]
    rfl
   refine pure_ (i := 10) (N := some 28) (v := ?_) (a' := ?_) #[true, true, true, false, false, true, false, false, false, false, true, false, false, false, false, false, false] rfl rfl (by kernel_rfl) (fun _ _ _ h => h) (Or.inl ⟨by rfl, ?_⟩) ?_ ?_
   rotate_left
   ·intro w'
    go_simp
    with_reducible rfl
   rotate_left
   ·simp only [Act.put, List.setIfInBounds_toArray, List.set_cons_zero, List.set_cons_succ, i64_w, i32_w]
    rfl
   refine take_ (i := 3) (N := some 21) (v := ?_) (a' := ?_) #[true, true, true, true, false, true, false, false, false, false, true, false, false, false, false, false, false] rfl rfl (by kernel_rfl) (fun _ _ _ h => h) (Or.inl ⟨by rfl, ?_⟩) hHeld ?_ ?_
   rotate_left
   ·rintro w' ⟨s0, s1, s2, s3, s4, s5⟩
    go_simp
    with_reducible rfl
   rotate_left
   ·simp only [Act.put, List.setIfInBounds_toArray, List.set_cons_zero, List.set_cons_succ, i64_w, i32_w]
    rfl
   refine take_ (i := 4) (N := some 22) (v := ?_) (a' := ?_) #[true, true, true, true, true, true, false, false, false, false, true, false, false, false, false, false, false] rfl rfl (by kernel_rfl) (fun _ _ _ h => h) (Or.inl ⟨by rfl, ?_⟩) hHeld ?_ ?_
   rotate_left
   ·rintro w' ⟨s0, s1, s2, s3, s4, s5⟩
    go_simp
    with_reducible rfl
   rotate_left
   ·simp only [Act.put, List.setIfInBounds_toArray, List.set_cons_zero, List.set_cons_succ, i64_w, i32_w]
    rfl
   refine take_ (i := 6) (N := some 24) (v := ?_) (a' := ?_) #[true, true, true, true, true, true, true, false, false, false, true, false, false, false, false, false, false] rfl rfl (by kernel_rfl) (fun _ _ _ h => h) (Or.inl ⟨by rfl, ?_⟩) hHeld ?_ ?_
   rotate_left
   ·rintro w' ⟨s0, s1, s2, s3, s4, s5⟩
    go_simp
    with_reducible rfl
   rotate_left
   ·simp only [Act.put, List.setIfInBounds_toArray, List.set_cons_zero, List.set_cons_succ, i64_w, i32_w]
    rfl
   refine take_ (i := 7) (N := some 25) (v := ?_) (a' := ?_) #[true, true, true, true, true, true, true, true, false, false, true, false, false, false, false, false, false] rfl rfl (by kernel_rfl) (fun _ _ _ h => h) (Or.inl ⟨by rfl, ?_⟩) hHeld ?_ ?_
   rotate_left
   ·rintro w' ⟨s0, s1, s2, s3, s4, s5⟩
    go_simp
    with_reducible rfl
   rotate_left
   ·simp only [Act.put, List.setIfInBounds_toArray, List.set_cons_zero, List.set_cons_succ, i64_w, i32_w]
    rfl
   refine pure_ (i := 8) (N := some 26) (v := ?_) (a' := ?_) #[true, true, true, true, true, true, true, true, true, false, true, false, false, false, false, false, false] rfl rfl (by kernel_rfl) (fun _ _ _ h => h) (Or.inl ⟨by rfl, ?_⟩) ?_ ?_
   rotate_left
   ·intro w'
    go_simp
    with_reducible rfl
   rotate_left
   ·simp only [Act.put, List.setIfInBounds_toArray, List.set_cons_zero, List.set_cons_succ, i64_w, i32_w]
    rfl
   refine take_ (i := 9) (N := some 27) (v := ?_) (a' := ?_) #[true, true, true, true, true, true, true, true, true, true, true, false, false, false, false, false, false] rfl rfl (by kernel_rfl) (fun _ _ _ h => h) (Or.inl ⟨by rfl, ?_⟩) hHeld ?_ ?_
   rotate_left
   ·rintro w' ⟨s0, s1, s2, s3, s4, s5⟩
    go_simp
    with_reducible rfl
   rotate_left
   ·simp only [Act.put, List.setIfInBounds_toArray, List.set_cons_zero, List.set_cons_succ, i64_w, i32_w]
    rfl
   refine pure_ (i := 11) (N := some 29) (v := ?_) (a' := ?_) #[true, true, true, true, true, true, true, true, true, true, true, true, false, false, false, false, false] rfl rfl (by kernel_rfl) (fun _ _ _ h => h) (Or.inl ⟨by rfl, ?_⟩) ?_ ?_
   rotate_left
   ·intro w'
    go_simp
    with_reducible rfl
   rotate_left
   ·simp only [Act.put, List.setIfInBounds_toArray, List.set_cons_zero, List.set_cons_succ, i64_w, i32_w]
    rfl
   refine take_ (i := 12) (N := some 30) (v := ?_) (a' := ?_) #[true, true, true, true, true, true, true, true, true, true, true, true, true, false, false, false, false] rfl rfl (by kernel_rfl) (fun _ _ _ h => h) (Or.inl ⟨by rfl, ?_⟩) hHeld ?_ ?_
   rotate_left
   ·rintro w' ⟨s0, s1, s2, s3, s4, s5⟩
    go_simp
    with_reducible rfl
   rotate_left
   ·simp only [Act.put, List.setIfInBounds_toArray, List.set_cons_zero, List.set_cons_succ, i64_w, i32_w]
    rfl
   refine one_ (i := 13) (N := some 31) #[true, true, true, true, true, true, true, true, true, true, true, true, true, true, false, false, false] rfl rfl (by kernel_rfl) (by decide) (fun K hK => ?_)
   refine goes_ Tryz.func95 (by kernel_rfl) rfl #[.pointer (some ⟨g, 0, none⟩), .int .i64 n, .int .i64 y] (by rfl) rfl rfl (by simp only [List.map_toArray, List.map_cons, List.map_nil]; rfl) ?_
   with_reducible refine (gf_Mul.calls g S wb n y _ HW.out HF.out.drew HSS.out).mono ?_
   rintro e w3 ⟨rfl, q1, q2⟩
   refine ⟨_, rfl, ?_⟩
   have q3 : BB wr w3 g := ⟨q2.os, q2.tape, q2.output, q2.size, q2.block⟩
   have h6c := S6.bb HNE.out h6 q3
   have hz3 := HFR.out w3 q3
   have hc3 := h6c.2.2.2.2.2
   have Q1 := Aside0.mk q1
   have Q3 := Aside0.mk q3
   clear q1 q2 q3
   refine hK.out _ _ ⟨h6c.1, h6c.2.1, h6c.2.2.1, h6c.2.2.2.1, h6c.2.2.2.2.1, h6c.2.2.2.2.2⟩ (fun hHeld => ?_)
   clear hK K
   refine norm_ (a' := ?_) ?_ ?_
   rotate_left
   ·show Act.put _ (some 31) _ = _
    simp only [Act.put, List.setIfInBounds_toArray, List.set_cons_zero, List.set_cons_succ, i64_w, i32_w]
    rfl
   refine pure_ (i := 14) (N := some 32) (v := ?_) (a' := ?_) #[true, true, true, true, true, true, true, true, true, true, true, true, true, true, true, false, false] rfl rfl (by kernel_rfl) (fun _ _ _ h => h) (Or.inl ⟨by rfl, ?_⟩) ?_ ?_
   rotate_left
   ·intro w'
    go_simp
    with_reducible rfl
   rotate_left
   ·simp only [Act.put, List.setIfInBounds_toArray, List.set_cons_zero, List.set_cons_succ, i64_w, i32_w]
    rfl
   refine pure_ (i := 15) (N := some 33) (v := ?_) (a' := ?_) #[true, true, true, true, true, true, true, true, true, true, true, true, true, true, true, true, false] rfl rfl (by kernel_rfl) (fun _ _ _ h => h) (Or.inl ⟨by rfl, ?_⟩) ?_ ?_
   rotate_left
   ·intro w'
    go_simp
    with_reducible rfl
   rotate_left
   ·simp only [Act.put, List.setIfInBounds_toArray, List.set_cons_zero, List.set_cons_succ, i64_w, i32_w]
    rfl
   refine last_ (i := 16) (N := none) #[true, true, true, true, true, true, true, true, true, true, true, true, true, true, true, true, true] rfl rfl (by kernel_rfl) (by decide) (fun K hK => ?_)
   refine skip_ (w1 := ?_) (by rfl) rfl ?_ ?_
   rotate_left
   ·go_simp
    rfl
   refine hK.out _ _ ?_
   clear hK K
   refine done_ (by kernel_rfl) ?_
   have HN1 := Aside0.mk (show Mx (w3.setCell ⟨bi, k, none⟩ (.int .i64 (Go.bits .xor .i64 x (gmul wb n y)))) o bs (rows.set i (mid (clrF wb n) row pr (k + 1))) by
    have h1 := (HM.out.bb HNG.out Q3.out).set (j := k) HBI.out HSELF.out (Go.bits .xor .i64 x (gmul wb n y))
    rw [List.set_set] at h1
    rw [← HSTEP.out]; exact h1)
   have HN2 := Aside0.mk (Q1.out.set (q := ⟨bi, k, none⟩) (HS0.out _ (HSB.out _ _ _ HBI.out)) (.int .i64 (Go.bits .xor .i64 x (gmul wb n y))))
   have HN3 := Aside0.mk ((HB.out.trans (BS.of_bb Q3.out)).set (p := ⟨bi, k, none⟩) (.inl (HSB.out _ _ _ HBI.out)) (.int .i64 (Go.bits .xor .i64 x (gmul wb n y))))
   go_wp2
   go_roundw
   case rel => exact ⟨k + 1, by omega, by go_num, HN1, HN2, HN3⟩
   case measure => simp [intOf]; omega
  ·obtain rfl : k = L := by omega
   have HE := Aside0.mk HM.out
   rw [← HL.out, mid_full _ _ _ (HL.out.trans HLP.out.symm)] at HE
   go_wp2
   go_end0
   exact ⟨rfl, HE.out, HF.out, HB.out⟩
end Go.Proofs.YtelcllhibpnneaaGreat.XCo
end
