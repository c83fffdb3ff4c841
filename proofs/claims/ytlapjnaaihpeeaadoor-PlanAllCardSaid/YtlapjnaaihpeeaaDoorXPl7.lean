-- WRITTEN BY this work's own program (wip/tools/xprint.py). Not trusted: Lean checks it.
import Derived.Test.YtlapjnaaihpeeaaDoorXPl0
import Derived.Test.YtlapjnaaihpeeaaDoorXPl6
namespace Go.Proofs.YtlapjnaaihpeeaaDoor.XPl
open Go.RowKit Go.Proofs.YtlapjnaaihpeeaaDoorW.PrintWords Go.Proofs.YtlapjnaaihpeeaaDoorW.PrintLast Go.Proofs.YtlapjnaaihpeeaaDoorW.PrintMore
attribute [local go_sem] max2_int min2_int max_two min_two max_three min_three max_four min_four   -- for this text's walks alone
set_option linter.unusedVariables false
set_option linter.unusedSimpArgs false

/-! ### gambrelref15_Shard: function 26 -/
def gambrelref15_Shard.j0 : Nat → ByteArray → Int → Bool → Int → Int → Int → Option (ByteArray × Int)
 | 0, _, _, _, _, _, _ => none
 | k + 1, x0, x2, x30, x189000, x189001, x189002 => if x30 = true then (some ((⟨#[]⟩ : ByteArray), 1)) else ((gambrelref09_Of.f x189000).bind fun bt191 => (if x2 < x189001 then (if x0.size + 2 ≤ 9223372036854775807 then ((some (([bt191.2.2.2.1] : List Int) : List Int)).bind fun y198 => (if (x0 ++ (⟨#[46, 100]⟩ : ByteArray)).size + (strOfNums y198).size ≤ 9223372036854775807 then ((gambrelref15_figure.f x189001).bind fun t201 => (if ((x0 ++ (⟨#[46, 100]⟩ : ByteArray)) ++ (strOfNums y198)).size + t201.size ≤ 9223372036854775807 then ((gambrelref15_figure.f x2).bind fun t202 => (if (((x0 ++ (⟨#[46, 100]⟩ : ByteArray)) ++ (strOfNums y198)) ++ t201).size + t202.size ≤ 9223372036854775807 then (some ((((x0 ++ (⟨#[46, 100]⟩ : ByteArray)) ++ (strOfNums y198)) ++ t201) ++ t202, 0)) else (none))) else (none))) else (none))) else (none)) else (if x0.size + 2 ≤ 9223372036854775807 then (if (x0 ++ (⟨#[46, 112]⟩ : ByteArray)).size + bt191.1.size ≤ 9223372036854775807 then ((gambrelref15_figure.f x189001).bind fun t203 => (if ((x0 ++ (⟨#[46, 112]⟩ : ByteArray)) ++ bt191.1).size + t203.size ≤ 9223372036854775807 then ((gambrelref15_figure.f x189002).bind fun t204 => (if (((x0 ++ (⟨#[46, 112]⟩ : ByteArray)) ++ bt191.1) ++ t203).size + t204.size ≤ 9223372036854775807 then ((gambrelref15_figure.f (wrap64 (x2 - x189001))).bind fun t205 => (if ((((x0 ++ (⟨#[46, 112]⟩ : ByteArray)) ++ bt191.1) ++ t203) ++ t204).size + t205.size ≤ 9223372036854775807 then (some (((((x0 ++ (⟨#[46, 112]⟩ : ByteArray)) ++ bt191.1) ++ t203) ++ t204) ++ t205, 0)) else (none))) else (none))) else (none))) else (none)) else (none))))
def gambrelref15_Shard.f (k : Nat) (a0 : ByteArray) (a1_0 : Int) (a1_1 : Int) (a1_2 : Int) (a2 : Int) : Option (ByteArray × Int) := (gambrelref15_May.f k a0).bind fun t189 => (if t189 = true then ((gambrelref09_May.f a1_0 a1_1 a1_2).bind fun t190 => (if t190 = true then (if a2 < 0 then (gambrelref15_Shard.j0 k a0 a2 true a1_0 a1_1 a1_2) else (gambrelref15_Shard.j0 k a0 a2 (decide (a2 ≥ (wrap64 (a1_1 + a1_2)))) a1_0 a1_1 a1_2)) else (gambrelref15_Shard.j0 k a0 a2 true a1_0 a1_1 a1_2))) else (gambrelref15_Shard.j0 k a0 a2 true a1_0 a1_1 a1_2))
theorem gambrelref15_Shard.mono_l : ∀ k, (∀ y0 y1 y2 y3 y4 y5, LeO (gambrelref15_Shard.j0 k y0 y1 y2 y3 y4 y5) (gambrelref15_Shard.j0 (k + 1) y0 y1 y2 y3 y4 y5))
 | 0 => fun _ _ _ _ _ _ r h => by simp [gambrelref15_Shard.j0] at h
 | k + 1 => by
  have ih0 := gambrelref15_Shard.mono_l k
  ·intro y0 y1 y2 y3 y4 y5
   unfold gambrelref15_Shard.j0
   repeat' first
   | (with_reducible exact ih0 _ _ _ _ _ _)
   | (with_reducible exact gambrelref15_May.mono _ _)
   | (with_reducible exact LeO.refl _)
   | (with_reducible exact LeO.none _)
   | (with_reducible refine LeO.ite ?_ ?_)
   | (with_reducible refine LeO.bind ?_ (fun _ => ?_))
   | exact ih0 _ _ _ _ _ _
   | exact gambrelref15_May.mono _ _
   | exact LeO.none _
   | refine LeO.ite ?_ ?_
   | refine LeO.bind ?_ (fun _ => ?_)
theorem gambrelref15_Shard.mono : ∀ a0 a1 a2 a3 a4 k, LeO (gambrelref15_Shard.f k a0 a1 a2 a3 a4) (gambrelref15_Shard.f (k + 1) a0 a1 a2 a3 a4) := by
 intro a0 a1 a2 a3 a4 k
 have ih0 := gambrelref15_Shard.mono_l k
 unfold gambrelref15_Shard.f
 repeat' first
   | (with_reducible exact ih0 _ _ _ _ _ _)
   | (with_reducible exact gambrelref15_May.mono _ _)
   | (with_reducible exact LeO.refl _)
   | (with_reducible exact LeO.none _)
   | (with_reducible refine LeO.ite ?_ ?_)
   | (with_reducible refine LeO.bind ?_ (fun _ => ?_))
   | exact ih0 _ _ _ _ _ _
   | exact gambrelref15_May.mono _ _
   | exact LeO.none _
   | refine LeO.ite ?_ ?_
   | refine LeO.bind ?_ (fun _ => ?_)
def gambrelref15_Shard.T5 : Bool × List (List Nat × List Nat) := (true, [([], []), ([0], [0]), ([], []), ([2], [2]), ([3], [3]), ([4], [4]), ([1, 5], [1, 5]), ([], []), ([7], [7]), ([8], [8]), ([6, 9], [6, 9]), ([], []), ([11, 9], [11]), ([10, 12], [10, 12]), ([13, 12, 0, 1, 2, 3, 4, 5, 6, 7, 8, 9, 10, 11, 12, 13], [13]), ([14, 0, 1, 2, 3, 4, 5, 6, 7, 8, 9, 10, 11, 12, 13, 14], [])])
def gambrelref15_Shard.B5 : List Nat := [0, 1, 0, 4, 12, 28, 63, 0, 128, 384, 1023, 0, 2944, 8191, 16383, 32767]
theorem gambrelref15_Shard.tab5 : rtab .any (opsOf Tryd.f26 5) = gambrelref15_Shard.T5 := by kernel_rfl
theorem gambrelref15_Shard.bits5 : waitsOk gambrelref15_Shard.T5.2 gambrelref15_Shard.B5 = true := by kernel_rfl
def gambrelref15_Shard.T6 : Bool × List (List Nat × List Nat) := (true, [([], []), ([0], [0]), ([], []), ([2], [2]), ([1, 3], [1, 3]), ([], []), ([5], [5]), ([6], [6]), ([4, 7], [4, 7]), ([], []), ([9], [9]), ([10, 7], [10]), ([8, 11], [8, 11]), ([], []), ([], []), ([14], [14]), ([13, 15], [13, 15]), ([16, 11], [16]), ([12, 17], [12, 17]), ([18, 17, 0, 1, 2, 3, 4, 5, 6, 7, 8, 9, 10, 11, 12, 13, 14, 15, 16, 17, 18], [18]), ([19, 0, 1, 2, 3, 4, 5, 6, 7, 8, 9, 10, 11, 12, 13, 14, 15, 16, 17, 18, 19], [])])
def gambrelref15_Shard.B6 : List Nat := [0, 1, 0, 4, 15, 0, 32, 96, 255, 0, 512, 1760, 4095, 0, 0, 16384, 57344, 126688, 262143, 524287, 1048575]
theorem gambrelref15_Shard.tab6 : rtab .any (opsOf Tryd.f26 6) = gambrelref15_Shard.T6 := by kernel_rfl
theorem gambrelref15_Shard.bits6 : waitsOk gambrelref15_Shard.T6.2 gambrelref15_Shard.B6 = true := by kernel_rfl
set_option maxHeartbeats 8000000 in
set_option maxRecDepth 100000 in
theorem gambrelref15_Shard.calls (k : Nat) (a0 : ByteArray) (a1_0 : Int) (a1_1 : Int) (a1_2 : Int) (a2 : Int) (r1 : ByteArray) (r2 : Int) (w : World) (h : gambrelref15_Shard.f k a0 a1_0 a1_1 a1_2 a2 = some (r1, r2)) :
  Calls Tryd.prog 26 #[.string a0, .agg #[.int .i64 a1_0, .int .i64 a1_1, .int .i64 a1_2], .int .i64 a2] w fun e w' => e = .returned (.tuple #[.string r1, .int .i64 r2]) ∧ Below w.heap.size w w' := by
 have hu23 := Tryd.underlying23
 have hu60 := Tryd.underlying60
 have HB := Aside0.mk (Below.refl w.heap.size w)
 have H : ((gambrelref15_May.f k a0).bind fun t189 => (if t189 = true then ((gambrelref09_May.f a1_0 a1_1 a1_2).bind fun t190 => (if t190 = true then (if a2 < 0 then (gambrelref15_Shard.j0 k a0 a2 true a1_0 a1_1 a1_2) else (gambrelref15_Shard.j0 k a0 a2 (decide (a2 ≥ (wrap64 (a1_1 + a1_2)))) a1_0 a1_1 a1_2)) else (gambrelref15_Shard.j0 k a0 a2 true a1_0 a1_1 a1_2))) else (gambrelref15_Shard.j0 k a0 a2 true a1_0 a1_1 a1_2))) = some (r1, r2) := h
 clear h
 have HC4 := Aside0.mk H
 clear H
 go_enter Tryd.func26, Tryd.ntmps26
 go_upto_region 1 with (first | ((with_reducible refine gate_dst (N := 4) rfl ?_); refine box_event ?hg (N := 4) ?hd (cs := #[.int .i64 a1_0, .int .i64 a1_1, .int .i64 a1_2]) (t := 23) ?hr ?_; (case hd => rfl); (case hg => rfl); (case hr => first | (go_simp; done) | (go_simp; rfl)); intro gb188 hg w5 hbox hb; have n0_ := Aside0.mk (below_step (by repeat (first | (with_reducible first | exact HB.out | apply below_alloc | apply pw_below_drewN | apply below_drew1) | exact HB.out)) hb); have n1_ := Aside0.mk (hbox); have n2_ := Aside0.mk ((by rw [hg]; exact (below_size (by repeat (first | (with_reducible first | exact HB.out | apply below_alloc | apply pw_below_drewN | apply below_drew1) | exact HB.out))) : w.heap.size ≤ gb188)); have n3_ := Aside0.mk ((by rw [hg]; exact (below_size (by repeat (first | (with_reducible first | exact HB.out | apply below_alloc | apply pw_below_drewN | apply below_drew1) | exact HB.out))) : w.heap.size ≤ gb188)); clear HB; have HB := n0_; have BK188 := n1_; have GW188 := n2_; have GE188 := n3_; clear n0_ n1_ n2_ n3_; clear hb hbox hg))
 (try simp only [Act.put, List.setIfInBounds_toArray, List.set_cons_zero, List.set_cons_succ])
 go_cut [30] (fun v30 wc => ∃ (kq : Nat) (x30_3 : Bool), v30 = .bool x30_3 ∧ Aside0 (gambrelref15_Shard.j0 kq a0 a2 x30_3 a1_0 a1_1 a1_2 = some (r1, r2)) ∧ Aside0 (kq ≤ k) ∧ Aside0 (wc.heap[gb188]? = some (.cells #[.int .i64 a1_0, .int .i64 a1_1, .int .i64 a1_2] 23 (0, 0))) ∧ Aside0 (Below w.heap.size w wc))
 case first =>
  have H := HC4.out
  clear HC4
  replace H := Option.bind_eq_some_iff.mp H
  obtain ⟨t189, A60, H⟩ := H
  replace H : (if t189 = true then ((gambrelref09_May.f a1_0 a1_1 a1_2).bind fun t190 => (if t190 = true then (if a2 < 0 then (gambrelref15_Shard.j0 k a0 a2 true a1_0 a1_1 a1_2) else (gambrelref15_Shard.j0 k a0 a2 (decide (a2 ≥ (wrap64 (a1_1 + a1_2)))) a1_0 a1_1 a1_2)) else (gambrelref15_Shard.j0 k a0 a2 true a1_0 a1_1 a1_2))) else (gambrelref15_Shard.j0 k a0 a2 true a1_0 a1_1 a1_2)) = some (r1, r2) := H
  have A6 := Aside0.mk A60
  clear A60
  by_cases c7 : t189 = true
  ·subst c7
   have H1 : ((gambrelref09_May.f a1_0 a1_1 a1_2).bind fun t190 => (if t190 = true then (if a2 < 0 then (gambrelref15_Shard.j0 k a0 a2 true a1_0 a1_1 a1_2) else (gambrelref15_Shard.j0 k a0 a2 (decide (a2 ≥ (wrap64 (a1_1 + a1_2)))) a1_0 a1_1 a1_2)) else (gambrelref15_Shard.j0 k a0 a2 true a1_0 a1_1 a1_2))) = some (r1, r2) := by rw [if_pos rfl] at H; exact H
   clear H
   have H := H1
   clear H1
   replace H := Option.bind_eq_some_iff.mp H
   obtain ⟨t190, A80, H⟩ := H
   replace H : (if t190 = true then (if a2 < 0 then (gambrelref15_Shard.j0 k a0 a2 true a1_0 a1_1 a1_2) else (gambrelref15_Shard.j0 k a0 a2 (decide (a2 ≥ (wrap64 (a1_1 + a1_2)))) a1_0 a1_1 a1_2)) else (gambrelref15_Shard.j0 k a0 a2 true a1_0 a1_1 a1_2)) = some (r1, r2) := H
   have A8 := Aside0.mk A80
   clear A80
   by_cases c9 : t190 = true
   ·subst c9
    have H1 : (if a2 < 0 then (gambrelref15_Shard.j0 k a0 a2 true a1_0 a1_1 a1_2) else (gambrelref15_Shard.j0 k a0 a2 (decide (a2 ≥ (wrap64 (a1_1 + a1_2)))) a1_0 a1_1 a1_2)) = some (r1, r2) := by rw [if_pos rfl] at H; exact H
    clear H
    have H := H1
    clear H1
    by_cases c10 : a2 < 0
    ·rw [if_pos c10] at H
     have c10b0 : decide (a2 < 0) = true := decide_eq_true c10
     clear c10
     (first | rw [c10b0] | (simp only [i64_w, i32_w]; rw [c10b0]) | skip)
     have H' := Aside0.mk H
     clear H
     go_wp2_with (first | ((with_reducible refine gate_callee (f := 22) rfl ?_); refine goesL_ (some 11) rfl rfl Tryd.func22 (by kernel_rfl) rfl #[.string a0] rfl (by (try simp only [List.map_toArray, List.map_cons, List.map_nil]); first | done | rfl | (simp only [List.length_drop, List.length_take]; rfl)) ?_; (with_reducible refine (gambrelref15_May.calls k a0 true _ A6.out).mono ?_); rintro e w' ⟨rfl, ⟨nd, rfl⟩⟩; refine ⟨_, rfl, ?_⟩; have hcz11_0 : w5.cell? ⟨gb188, 0, none⟩ = some (.int .i64 a1_0) := (blk_cell BK188.out 0).trans rfl; have hcz11_1 : w5.cell? ⟨gb188, 1, none⟩ = some (.int .i64 a1_1) := (blk_cell BK188.out 1).trans rfl; have hcz11_2 : w5.cell? ⟨gb188, 2, none⟩ = some (.int .i64 a1_2) := (blk_cell BK188.out 2).trans rfl; have hfz11_0 := blk_frozen BK188.out 0; have hfz11_1 := blk_frozen BK188.out 1; have hfz11_2 := blk_frozen BK188.out 2) | (go_at_call 23; (with_reducible refine (gambrelref09_May.calls a1_0 a1_1 a1_2 true _ A8.out).mono ?_); rintro e w12 ⟨rfl, hb⟩; have n0_ := Aside0.mk (blk_below (g := gb188) (o := .cells #[.int .i64 a1_0, .int .i64 a1_1, .int .i64 a1_2] 23 (0, 0)) (by (with_reducible repeat (first | refine blk_drewN ?_ _ | refine blk_drew ?_ | refine blk_alloc ?_ _)); exact BK188.out) hb); have n1_ := Aside0.mk (below_step (by repeat (first | (with_reducible first | exact HB.out | apply below_alloc | apply pw_below_drewN | apply below_drew1 | refine below_set ?_ GE188.out) | exact HB.out)) hb); clear BK188; clear HB; have BK188 := n0_; have HB := n1_; clear n0_ n1_; (try clear hb); (try clear hb2); (try clear hk); (try clear hi)))
     go_meet
     case rel => exact ⟨_, (true), (by first | rfl | (simp; done) | (simp [*]; done)), H', ⟨by first | omega | exact Nat.le_refl _⟩, ⟨by (with_reducible repeat (first | refine blk_drewN ?_ _ | refine blk_drew ?_ | refine blk_alloc ?_ _)); exact BK188.out⟩, ⟨by repeat (first | (with_reducible first | exact HB.out | apply below_alloc | apply pw_below_drewN | apply below_drew1 | refine below_set ?_ GE188.out) | exact HB.out)⟩⟩
    ·rw [if_neg c10] at H
     have c10b0 : decide (a2 < 0) = false := decide_eq_false c10
     clear c10
     (first | rw [c10b0] | (simp only [i64_w, i32_w]; rw [c10b0]) | skip)
     have H' := Aside0.mk H
     clear H
     go_wp2_with (first | ((with_reducible refine gate_callee (f := 22) rfl ?_); refine goesL_ (some 11) rfl rfl Tryd.func22 (by kernel_rfl) rfl #[.string a0] rfl (by (try simp only [List.map_toArray, List.map_cons, List.map_nil]); first | done | rfl | (simp only [List.length_drop, List.length_take]; rfl)) ?_; (with_reducible refine (gambrelref15_May.calls k a0 true _ A6.out).mono ?_); rintro e w' ⟨rfl, ⟨nd, rfl⟩⟩; refine ⟨_, rfl, ?_⟩; have hcz13_0 : w5.cell? ⟨gb188, 0, none⟩ = some (.int .i64 a1_0) := (blk_cell BK188.out 0).trans rfl; have hcz13_1 : w5.cell? ⟨gb188, 1, none⟩ = some (.int .i64 a1_1) := (blk_cell BK188.out 1).trans rfl; have hcz13_2 : w5.cell? ⟨gb188, 2, none⟩ = some (.int .i64 a1_2) := (blk_cell BK188.out 2).trans rfl; have hfz13_0 := blk_frozen BK188.out 0; have hfz13_1 := blk_frozen BK188.out 1; have hfz13_2 := blk_frozen BK188.out 2) | (go_at_call 23; (with_reducible refine (gambrelref09_May.calls a1_0 a1_1 a1_2 true _ A8.out).mono ?_); rintro e w14 ⟨rfl, hb⟩; have n0_ := Aside0.mk (blk_below (g := gb188) (o := .cells #[.int .i64 a1_0, .int .i64 a1_1, .int .i64 a1_2] 23 (0, 0)) (by (with_reducible repeat (first | refine blk_drewN ?_ _ | refine blk_drew ?_ | refine blk_alloc ?_ _)); exact BK188.out) hb); have n1_ := Aside0.mk (below_step (by repeat (first | (with_reducible first | exact HB.out | apply below_alloc | apply pw_below_drewN | apply below_drew1 | refine below_set ?_ GE188.out) | exact HB.out)) hb); clear BK188; clear HB; have BK188 := n0_; have HB := n1_; clear n0_ n1_; (try clear hb); (try clear hb2); (try clear hk); (try clear hi); have hcz15_0 : w14.cell? ⟨gb188, 0, none⟩ = some (.int .i64 a1_0) := (blk_cell BK188.out 0).trans rfl; have hcz15_1 : w14.cell? ⟨gb188, 1, none⟩ = some (.int .i64 a1_1) := (blk_cell BK188.out 1).trans rfl; have hcz15_2 : w14.cell? ⟨gb188, 2, none⟩ = some (.int .i64 a1_2) := (blk_cell BK188.out 2).trans rfl; have hfz15_0 := blk_frozen BK188.out 0; have hfz15_1 := blk_frozen BK188.out 1; have hfz15_2 := blk_frozen BK188.out 2))
     go_meet
     case rel => exact ⟨_, (decide (a2 ≥ (wrap64 (a1_1 + a1_2)))), (by first | rfl | (simp; done) | (simp [*]; done)), H', ⟨by first | omega | exact Nat.le_refl _⟩, ⟨by (with_reducible repeat (first | refine blk_drewN ?_ _ | refine blk_drew ?_ | refine blk_alloc ?_ _)); exact BK188.out⟩, ⟨by repeat (first | (with_reducible first | exact HB.out | apply below_alloc | apply pw_below_drewN | apply below_drew1 | refine below_set ?_ GE188.out) | exact HB.out)⟩⟩
   ·replace c9 := Bool.eq_false_iff.mpr c9
    subst c9
    have H1 : (gambrelref15_Shard.j0 k a0 a2 true a1_0 a1_1 a1_2) = some (r1, r2) := by rw [if_neg (show ¬ (false = true) by decide)] at H; exact H
    clear H
    have H := H1
    clear H1
    have H' := Aside0.mk H
    clear H
    go_wp2_with (first | ((with_reducible refine gate_callee (f := 22) rfl ?_); refine goesL_ (some 11) rfl rfl Tryd.func22 (by kernel_rfl) rfl #[.string a0] rfl (by (try simp only [List.map_toArray, List.map_cons, List.map_nil]); first | done | rfl | (simp only [List.length_drop, List.length_take]; rfl)) ?_; (with_reducible refine (gambrelref15_May.calls k a0 true _ A6.out).mono ?_); rintro e w' ⟨rfl, ⟨nd, rfl⟩⟩; refine ⟨_, rfl, ?_⟩; have hcz16_0 : w5.cell? ⟨gb188, 0, none⟩ = some (.int .i64 a1_0) := (blk_cell BK188.out 0).trans rfl; have hcz16_1 : w5.cell? ⟨gb188, 1, none⟩ = some (.int .i64 a1_1) := (blk_cell BK188.out 1).trans rfl; have hcz16_2 : w5.cell? ⟨gb188, 2, none⟩ = some (.int .i64 a1_2) := (blk_cell BK188.out 2).trans rfl; have hfz16_0 := blk_frozen BK188.out 0; have hfz16_1 := blk_frozen BK188.out 1; have hfz16_2 := blk_frozen BK188.out 2) | (go_at_call 23; (with_reducible refine (gambrelref09_May.calls a1_0 a1_1 a1_2 false _ A8.out).mono ?_); rintro e w17 ⟨rfl, hb⟩; have n0_ := Aside0.mk (blk_below (g := gb188) (o := .cells #[.int .i64 a1_0, .int .i64 a1_1, .int .i64 a1_2] 23 (0, 0)) (by (with_reducible repeat (first | refine blk_drewN ?_ _ | refine blk_drew ?_ | refine blk_alloc ?_ _)); exact BK188.out) hb); have n1_ := Aside0.mk (below_step (by repeat (first | (with_reducible first | exact HB.out | apply below_alloc | apply pw_below_drewN | apply below_drew1 | refine below_set ?_ GE188.out) | exact HB.out)) hb); clear BK188; clear HB; have BK188 := n0_; have HB := n1_; clear n0_ n1_; (try clear hb); (try clear hb2); (try clear hk); (try clear hi)))
    go_meet
    case rel => exact ⟨_, (true), (by first | rfl | (simp; done) | (simp [*]; done)), H', ⟨by first | omega | exact Nat.le_refl _⟩, ⟨by (with_reducible repeat (first | refine blk_drewN ?_ _ | refine blk_drew ?_ | refine blk_alloc ?_ _)); exact BK188.out⟩, ⟨by repeat (first | (with_reducible first | exact HB.out | apply below_alloc | apply pw_below_drewN | apply below_drew1 | refine below_set ?_ GE188.out) | exact HB.out)⟩⟩
  ·replace c7 := Bool.eq_false_iff.mpr c7
   subst c7
   have H1 : (gambrelref15_Shard.j0 k a0 a2 true a1_0 a1_1 a1_2) = some (r1, r2) := by rw [if_neg (show ¬ (false = true) by decide)] at H; exact H
   clear H
   have H := H1
   clear H1
   have H' := Aside0.mk H
   clear H
   go_wp2_with (first | ((with_reducible refine gate_callee (f := 22) rfl ?_); refine goesL_ (some 11) rfl rfl Tryd.func22 (by kernel_rfl) rfl #[.string a0] rfl (by (try simp only [List.map_toArray, List.map_cons, List.map_nil]); first | done | rfl | (simp only [List.length_drop, List.length_take]; rfl)) ?_; (with_reducible refine (gambrelref15_May.calls k a0 false _ A6.out).mono ?_); rintro e w' ⟨rfl, ⟨nd, rfl⟩⟩; refine ⟨_, rfl, ?_⟩))
   go_meet
   case rel => exact ⟨_, (true), (by first | rfl | (simp; done) | (simp [*]; done)), H', ⟨by first | omega | exact Nat.le_refl _⟩, ⟨by (with_reducible repeat (first | refine blk_drewN ?_ _ | refine blk_drew ?_ | refine blk_alloc ?_ _)); exact BK188.out⟩, ⟨by repeat (first | (with_reducible first | exact HB.out | apply below_alloc | apply pw_below_drewN | apply below_drew1 | refine below_set ?_ GE188.out) | exact HB.out)⟩⟩
 case rest =>
  clear HC4
  try clear c1
  try clear c2
  try clear p2
  try clear p6
  try clear c7
  try clear c9
  try clear c10
  try clear c10b0
  try clear hcz11_0
  try clear hcz11_1
  try clear hcz11_2
  try clear hcz13_0
  try clear hcz13_1
  try clear hcz13_2
  try clear hcz15_0
  try clear hcz15_1
  try clear hcz15_2
  try clear hcz16_0
  try clear hcz16_1
  try clear hcz16_2
  try clear hfz11_0
  try clear hfz11_1
  try clear hfz11_2
  try clear hfz13_0
  try clear hfz13_1
  try clear hfz13_2
  try clear hfz15_0
  try clear hfz15_1
  try clear hfz15_2
  try clear hfz16_0
  try clear hfz16_1
  try clear hfz16_2
  obtain ⟨kq, x30_3, rfl, HA, HJ3, BK188, HB⟩ := hcut
  cases kq with
  | zero => exact absurd HA.out (by simp [gambrelref15_Shard.j0])
  | succ kj3 =>
   have H := HA.out
   clear HA
   simp only [gambrelref15_Shard.j0] at H
   by_cases c18 : x30_3 = true
   ·subst c18
    have H1 : (some ((⟨#[]⟩ : ByteArray), 1)) = some (r1, r2) := by rw [if_pos rfl] at H; exact H
    clear H
    have H := H1
    clear H1
    simp only [Option.some.injEq, Prod.mk.injEq] at H
    obtain ⟨rfl, rfl⟩ := H
    go_wp2
    go_ret2
    exact ⟨by first | rfl | (simp [errW_none, errW_some] <;> rfl) | (simp [*, errW_none, errW_some] <;> rfl), by repeat (first | (with_reducible first | exact HB.out | apply below_alloc | apply pw_below_drewN | apply below_drew1 | refine below_set ?_ GE188.out) | exact HB.out)⟩
   ·replace c18 := Bool.eq_false_iff.mpr c18
    subst c18
    have H1 : ((gambrelref09_Of.f a1_0).bind fun bt191 => (if a2 < a1_1 then (if a0.size + 2 ≤ 9223372036854775807 then ((some (([bt191.2.2.2.1] : List Int) : List Int)).bind fun y198 => (if (a0 ++ (⟨#[46, 100]⟩ : ByteArray)).size + (strOfNums y198).size ≤ 9223372036854775807 then ((gambrelref15_figure.f a1_1).bind fun t201 => (if ((a0 ++ (⟨#[46, 100]⟩ : ByteArray)) ++ (strOfNums y198)).size + t201.size ≤ 9223372036854775807 then ((gambrelref15_figure.f a2).bind fun t202 => (if (((a0 ++ (⟨#[46, 100]⟩ : ByteArray)) ++ (strOfNums y198)) ++ t201).size + t202.size ≤ 9223372036854775807 then (some ((((a0 ++ (⟨#[46, 100]⟩ : ByteArray)) ++ (strOfNums y198)) ++ t201) ++ t202, 0)) else (none))) else (none))) else (none))) else (none)) else (if a0.size + 2 ≤ 9223372036854775807 then (if (a0 ++ (⟨#[46, 112]⟩ : ByteArray)).size + bt191.1.size ≤ 9223372036854775807 then ((gambrelref15_figure.f a1_1).bind fun t203 => (if ((a0 ++ (⟨#[46, 112]⟩ : ByteArray)) ++ bt191.1).size + t203.size ≤ 9223372036854775807 then ((gambrelref15_figure.f a1_2).bind fun t204 => (if (((a0 ++ (⟨#[46, 112]⟩ : ByteArray)) ++ bt191.1) ++ t203).size + t204.size ≤ 9223372036854775807 then ((gambrelref15_figure.f (wrap64 (a2 - a1_1))).bind fun t205 => (if ((((a0 ++ (⟨#[46, 112]⟩ : ByteArray)) ++ bt191.1) ++ t203) ++ t204).size + t205.size ≤ 9223372036854775807 then (some (((((a0 ++ (⟨#[46, 112]⟩ : ByteArray)) ++ bt191.1) ++ t203) ++ t204) ++ t205, 0)) else (none))) else (none))) else (none))) else (none)) else (none)))) = some (r1, r2) := by rw [if_neg (show ¬ (false = true) by decide)] at H; exact H
    clear H
    have H := H1
    clear H1
    replace H := Option.bind_eq_some_iff.mp H
    obtain ⟨⟨t191, t192, t193, t194, t195, t196⟩, A190, H⟩ := H
    replace H : (if a2 < a1_1 then (if a0.size + 2 ≤ 9223372036854775807 then ((some (([t194] : List Int) : List Int)).bind fun y198 => (if (a0 ++ (⟨#[46, 100]⟩ : ByteArray)).size + (strOfNums y198).size ≤ 9223372036854775807 then ((gambrelref15_figure.f a1_1).bind fun t201 => (if ((a0 ++ (⟨#[46, 100]⟩ : ByteArray)) ++ (strOfNums y198)).size + t201.size ≤ 9223372036854775807 then ((gambrelref15_figure.f a2).bind fun t202 => (if (((a0 ++ (⟨#[46, 100]⟩ : ByteArray)) ++ (strOfNums y198)) ++ t201).size + t202.size ≤ 9223372036854775807 then (some ((((a0 ++ (⟨#[46, 100]⟩ : ByteArray)) ++ (strOfNums y198)) ++ t201) ++ t202, 0)) else (none))) else (none))) else (none))) else (none)) else (if a0.size + 2 ≤ 9223372036854775807 then (if (a0 ++ (⟨#[46, 112]⟩ : ByteArray)).size + t191.size ≤ 9223372036854775807 then ((gambrelref15_figure.f a1_1).bind fun t203 => (if ((a0 ++ (⟨#[46, 112]⟩ : ByteArray)) ++ t191).size + t203.size ≤ 9223372036854775807 then ((gambrelref15_figure.f a1_2).bind fun t204 => (if (((a0 ++ (⟨#[46, 112]⟩ : ByteArray)) ++ t191) ++ t203).size + t204.size ≤ 9223372036854775807 then ((gambrelref15_figure.f (wrap64 (a2 - a1_1))).bind fun t205 => (if ((((a0 ++ (⟨#[46, 112]⟩ : ByteArray)) ++ t191) ++ t203) ++ t204).size + t205.size ≤ 9223372036854775807 then (some (((((a0 ++ (⟨#[46, 112]⟩ : ByteArray)) ++ t191) ++ t203) ++ t204) ++ t205, 0)) else (none))) else (none))) else (none))) else (none)) else (none))) = some (r1, r2) := H
    have A19 := Aside0.mk A190
    clear A190
    by_cases c20 : a2 < a1_1
    ·rw [if_pos c20] at H
     have c20b0 : decide (a2 < a1_1) = true := decide_eq_true c20
     clear c20
     by_cases c21 : a0.size + 2 ≤ 9223372036854775807
     ·rw [if_pos c21] at H
      have c21b0 := eq_true c21
      have c21b1 : decide (a0.size + 2 ≤ 9223372036854775807) = true := decide_eq_true c21
      try have c21b2 : (9223372036854775807 < a0.size + 2) = False := eq_false (Nat.not_lt.2 c21)
      obtain ⟨y198, hy198⟩ : ∃ y_ : List Int, y_ = (([t194] : List Int)) := ⟨_, rfl⟩
      replace H : (if (a0 ++ (⟨#[46, 100]⟩ : ByteArray)).size + (strOfNums y198).size ≤ 9223372036854775807 then ((gambrelref15_figure.f a1_1).bind fun t201 => (if ((a0 ++ (⟨#[46, 100]⟩ : ByteArray)) ++ (strOfNums y198)).size + t201.size ≤ 9223372036854775807 then ((gambrelref15_figure.f a2).bind fun t202 => (if (((a0 ++ (⟨#[46, 100]⟩ : ByteArray)) ++ (strOfNums y198)) ++ t201).size + t202.size ≤ 9223372036854775807 then (some ((((a0 ++ (⟨#[46, 100]⟩ : ByteArray)) ++ (strOfNums y198)) ++ t201) ++ t202, 0)) else (none))) else (none))) else (none)) = some (r1, r2) := by first | (rw [hy198]; with_reducible exact H) | (have H2_ := (Option.bind_some _ _).symm.trans H; rw [hy198]; with_reducible exact H2_) | (have H2_ := (Option.bind_some _ _).symm.trans H; with_reducible exact H2_) | with_reducible exact H | (rw [hy198]; exact H) | exact H
      have Ny198 := Aside0.mk hy198
      clear hy198
      by_cases c22 : (a0 ++ (⟨#[46, 100]⟩ : ByteArray)).size + (strOfNums y198).size ≤ 9223372036854775807
      ·rw [if_pos c22] at H
       have c22b0 := eq_true c22
       have c22b1 : decide ((a0 ++ (⟨#[46, 100]⟩ : ByteArray)).size + (strOfNums y198).size ≤ 9223372036854775807) = true := decide_eq_true c22
       try have c22b2 : (9223372036854775807 < (a0 ++ (⟨#[46, 100]⟩ : ByteArray)).size + (strOfNums y198).size) = False := eq_false (Nat.not_lt.2 c22)
       try have c22b3 : (9223372036854775807 < a0.size + 2 + (strOfNums y198).size) = False := eq_false (by have h_ := c22; simp only [ByteArray.size_append] at h_; exact Nat.not_lt.2 h_)
       replace H := Option.bind_eq_some_iff.mp H
       obtain ⟨t201, A230, H⟩ := H
       replace H : (if ((a0 ++ (⟨#[46, 100]⟩ : ByteArray)) ++ (strOfNums y198)).size + t201.size ≤ 9223372036854775807 then ((gambrelref15_figure.f a2).bind fun t202 => (if (((a0 ++ (⟨#[46, 100]⟩ : ByteArray)) ++ (strOfNums y198)) ++ t201).size + t202.size ≤ 9223372036854775807 then (some ((((a0 ++ (⟨#[46, 100]⟩ : ByteArray)) ++ (strOfNums y198)) ++ t201) ++ t202, 0)) else (none))) else (none)) = some (r1, r2) := H
       have A23 := Aside0.mk A230
       clear A230
       by_cases c24 : ((a0 ++ (⟨#[46, 100]⟩ : ByteArray)) ++ (strOfNums y198)).size + t201.size ≤ 9223372036854775807
       ·rw [if_pos c24] at H
        have c24b0 := eq_true c24
        have c24b1 : decide (((a0 ++ (⟨#[46, 100]⟩ : ByteArray)) ++ (strOfNums y198)).size + t201.size ≤ 9223372036854775807) = true := decide_eq_true c24
        try have c24b2 : (9223372036854775807 < ((a0 ++ (⟨#[46, 100]⟩ : ByteArray)) ++ (strOfNums y198)).size + t201.size) = False := eq_false (Nat.not_lt.2 c24)
        try have c24b3 : (9223372036854775807 < a0.size + 2 + (strOfNums y198).size + t201.size) = False := eq_false (by have h_ := c24; simp only [ByteArray.size_append] at h_; exact Nat.not_lt.2 h_)
        replace H := Option.bind_eq_some_iff.mp H
        obtain ⟨t202, A250, H⟩ := H
        replace H : (if (((a0 ++ (⟨#[46, 100]⟩ : ByteArray)) ++ (strOfNums y198)) ++ t201).size + t202.size ≤ 9223372036854775807 then (some ((((a0 ++ (⟨#[46, 100]⟩ : ByteArray)) ++ (strOfNums y198)) ++ t201) ++ t202, 0)) else (none)) = some (r1, r2) := H
        have A25 := Aside0.mk A250
        clear A250
        by_cases c26 : (((a0 ++ (⟨#[46, 100]⟩ : ByteArray)) ++ (strOfNums y198)) ++ t201).size + t202.size ≤ 9223372036854775807
        ·rw [if_pos c26] at H
         have c26b0 := eq_true c26
         have c26b1 : decide ((((a0 ++ (⟨#[46, 100]⟩ : ByteArray)) ++ (strOfNums y198)) ++ t201).size + t202.size ≤ 9223372036854775807) = true := decide_eq_true c26
         try have c26b2 : (9223372036854775807 < (((a0 ++ (⟨#[46, 100]⟩ : ByteArray)) ++ (strOfNums y198)) ++ t201).size + t202.size) = False := eq_false (Nat.not_lt.2 c26)
         try have c26b3 : (9223372036854775807 < a0.size + 2 + (strOfNums y198).size + t201.size + t202.size) = False := eq_false (by have h_ := c26; simp only [ByteArray.size_append] at h_; exact Nat.not_lt.2 h_)
         simp only [Option.some.injEq, Prod.mk.injEq] at H
         obtain ⟨rfl, rfl⟩ := H
         have hcz27_0 : wc.cell? ⟨gb188, 0, none⟩ = some (.int .i64 a1_0) := (blk_cell BK188.out 0).trans rfl
         have hcz27_1 : wc.cell? ⟨gb188, 1, none⟩ = some (.int .i64 a1_1) := (blk_cell BK188.out 1).trans rfl
         have hcz27_2 : wc.cell? ⟨gb188, 2, none⟩ = some (.int .i64 a1_2) := (blk_cell BK188.out 2).trans rfl
         have hfz27_0 := blk_frozen BK188.out 0
         have hfz27_1 := blk_frozen BK188.out 1
         have hfz27_2 := blk_frozen BK188.out 2
         try go_wp2_with (first | ((with_reducible refine gate_callee (f := 24) rfl ?_); refine goesL_ (some 34) rfl rfl Tryd.func24 (by kernel_rfl) rfl #[.int .i64 a1_0] rfl (by (try simp only [List.map_toArray, List.map_cons, List.map_nil]); first | done | rfl | (simp only [List.length_drop, List.length_take]; rfl)) ?_; (with_reducible refine (gambrelref09_Of.calls a1_0 t191 t192 t193 t194 t195 t196 _ A19.out).mono ?_); rintro e w28 ⟨rfl, hb⟩; refine ⟨_, rfl, ?_⟩; have n0_ := Aside0.mk (blk_below (g := gb188) (o := .cells #[.int .i64 a1_0, .int .i64 a1_1, .int .i64 a1_2] 23 (0, 0)) (by (with_reducible repeat (first | refine blk_drewN ?_ _ | refine blk_drew ?_ | refine blk_alloc ?_ _)); exact BK188.out) hb); have n1_ := Aside0.mk (below_step (by repeat (first | (with_reducible first | exact HB.out | apply below_alloc | apply pw_below_drewN | apply below_drew1 | refine below_set ?_ GE188.out) | exact HB.out)) hb); clear BK188; clear HB; have BK188 := n0_; have HB := n1_; clear n0_ n1_; (try clear hb); (try clear hb2); (try clear hk); (try clear hi)) | ((with_reducible refine gate_dst (N := 8) rfl ?_); refine box_event ?hg (N := 8) ?hd (cs := #[.string (⟨#[]⟩ : ByteArray), .int .i64 0, .int .u32 0, .int .u8 0, .int .i64 0]) (t := 60) ?hr ?_; (case hd => rfl); (case hg => rfl); (case hr => first | (go_simp; done) | (go_simp; rfl)); intro gb197 hg w29 hbox hb; have n0_ := Aside0.mk (blk_below (g := gb188) (o := .cells #[.int .i64 a1_0, .int .i64 a1_1, .int .i64 a1_2] 23 (0, 0)) (by (with_reducible repeat (first | refine blk_drewN ?_ _ | refine blk_drew ?_ | refine blk_alloc ?_ _)); exact BK188.out) hb); have n1_ := Aside0.mk (below_step (by repeat (first | (with_reducible first | exact HB.out | apply below_alloc | apply pw_below_drewN | apply below_drew1 | refine below_set ?_ GE188.out) | exact HB.out)) hb); have n2_ := Aside0.mk (hbox); have n3_ := Aside0.mk ((by rw [hg]; exact (below_size (by repeat (first | (with_reducible first | exact HB.out | apply below_alloc | apply pw_below_drewN | apply below_drew1 | refine below_set ?_ GE188.out) | exact HB.out))) : w.heap.size ≤ gb197)); have n4_ := Aside0.mk ((by rw [hg]; exact (below_size (by repeat (first | (with_reducible first | exact HB.out | apply below_alloc | apply pw_below_drewN | apply below_drew1 | refine below_set ?_ GE188.out) | exact HB.out))) : w.heap.size ≤ gb197)); have n5_ := Aside0.mk ((by rw [hg]; exact Nat.ne_of_lt (blk_lt (g := gb188) (o := .cells #[.int .i64 a1_0, .int .i64 a1_1, .int .i64 a1_2] 23 (0, 0)) (by (with_reducible repeat (first | refine blk_drewN ?_ _ | refine blk_drew ?_ | refine blk_alloc ?_ _)); exact BK188.out)) : gb188 ≠ gb197)); have n6_ := Aside0.mk ((by rw [hg]; exact Nat.ne_of_gt (blk_lt (g := gb188) (o := .cells #[.int .i64 a1_0, .int .i64 a1_1, .int .i64 a1_2] 23 (0, 0)) (by (with_reducible repeat (first | refine blk_drewN ?_ _ | refine blk_drew ?_ | refine blk_alloc ?_ _)); exact BK188.out)) : gb197 ≠ gb188)); clear BK188; clear HB; have BK188 := n0_; have HB := n1_; have BK197 := n2_; have GW197 := n3_; have GE197 := n4_; have NB188_197 := n5_; have NB197_188 := n6_; clear n0_ n1_ n2_ n3_ n4_ n5_ n6_; clear hb hbox hg; have hnb30 := NB197_188.out; have hnc30 := NB188_197.out; have hcz31_0 : w29.cell? ⟨gb197, 0, none⟩ = some (.string (⟨#[]⟩ : ByteArray)) := (blk_cell BK197.out 0).trans rfl; have hcz31_1 : w29.cell? ⟨gb197, 1, none⟩ = some (.int .i64 0) := (blk_cell BK197.out 1).trans rfl; have hcz31_2 : w29.cell? ⟨gb197, 2, none⟩ = some (.int .u32 0) := (blk_cell BK197.out 2).trans rfl; have hcz31_3 : w29.cell? ⟨gb197, 3, none⟩ = some (.int .u8 0) := (blk_cell BK197.out 3).trans rfl; have hcz31_4 : w29.cell? ⟨gb197, 4, none⟩ = some (.int .i64 0) := (blk_cell BK197.out 4).trans rfl; have hfz31_0 := blk_frozen BK197.out 0; have hfz31_1 := blk_frozen BK197.out 1; have hfz31_2 := blk_frozen BK197.out 2; have hfz31_3 := blk_frozen BK197.out 3; have hfz31_4 := blk_frozen BK197.out 4; have hcz32_0 : w29.cell? ⟨gb188, 0, none⟩ = some (.int .i64 a1_0) := (blk_cell BK188.out 0).trans rfl; have hcz32_1 : w29.cell? ⟨gb188, 1, none⟩ = some (.int .i64 a1_1) := (blk_cell BK188.out 1).trans rfl; have hcz32_2 : w29.cell? ⟨gb188, 2, none⟩ = some (.int .i64 a1_2) := (blk_cell BK188.out 2).trans rfl; have hfz32_0 := blk_frozen BK188.out 0; have hfz32_1 := blk_frozen BK188.out 1; have hfz32_2 := blk_frozen BK188.out 2))
         have n0_ : Aside0 ((((((w29.setCell ⟨gb197, 0, none⟩ (.string t191)).setCell ⟨gb197, 1, none⟩ (.int .i64 t192)).setCell ⟨gb197, 2, none⟩ (.int .u32 t193)).setCell ⟨gb197, 3, none⟩ (.int .u8 t194)).setCell ⟨gb197, 4, none⟩ (.int .i64 t195)).heap[gb188]? = some (.cells #[.int .i64 a1_0, .int .i64 a1_1, .int .i64 a1_2] 23 (0, 0))) := ⟨by (with_reducible repeat (first | refine blk_drewN ?_ _ | refine blk_drew ?_ | refine blk_alloc ?_ _)); refine blk_far ?_ NB188_197.out _; (with_reducible repeat (first | refine blk_drewN ?_ _ | refine blk_drew ?_ | refine blk_alloc ?_ _)); refine blk_far ?_ NB188_197.out _; (with_reducible repeat (first | refine blk_drewN ?_ _ | refine blk_drew ?_ | refine blk_alloc ?_ _)); refine blk_far ?_ NB188_197.out _; (with_reducible repeat (first | refine blk_drewN ?_ _ | refine blk_drew ?_ | refine blk_alloc ?_ _)); refine blk_far ?_ NB188_197.out _; (with_reducible repeat (first | refine blk_drewN ?_ _ | refine blk_drew ?_ | refine blk_alloc ?_ _)); refine blk_far ?_ NB188_197.out _; (with_reducible repeat (first | refine blk_drewN ?_ _ | refine blk_drew ?_ | refine blk_alloc ?_ _)); exact BK188.out⟩
         have n1_ : Aside0 ((((((w29.setCell ⟨gb197, 0, none⟩ (.string t191)).setCell ⟨gb197, 1, none⟩ (.int .i64 t192)).setCell ⟨gb197, 2, none⟩ (.int .u32 t193)).setCell ⟨gb197, 3, none⟩ (.int .u8 t194)).setCell ⟨gb197, 4, none⟩ (.int .i64 t195)).heap[gb197]? = some (.cells #[.string t191, .int .i64 t192, .int .u32 t193, .int .u8 t194, .int .i64 t195] 60 (0, 0))) := ⟨by (with_reducible repeat (first | refine blk_drewN ?_ _ | refine blk_drew ?_ | refine blk_alloc ?_ _)); refine blk_put (cs := #[.string t191, .int .i64 t192, .int .u32 t193, .int .u8 t194, .int .i64 0]) ?_ 4 _ rfl; (with_reducible repeat (first | refine blk_drewN ?_ _ | refine blk_drew ?_ | refine blk_alloc ?_ _)); refine blk_put (cs := #[.string t191, .int .i64 t192, .int .u32 t193, .int .u8 0, .int .i64 0]) ?_ 3 _ rfl; (with_reducible repeat (first | refine blk_drewN ?_ _ | refine blk_drew ?_ | refine blk_alloc ?_ _)); refine blk_put (cs := #[.string t191, .int .i64 t192, .int .u32 0, .int .u8 0, .int .i64 0]) ?_ 2 _ rfl; (with_reducible repeat (first | refine blk_drewN ?_ _ | refine blk_drew ?_ | refine blk_alloc ?_ _)); refine blk_put (cs := #[.string t191, .int .i64 0, .int .u32 0, .int .u8 0, .int .i64 0]) ?_ 1 _ rfl; (with_reducible repeat (first | refine blk_drewN ?_ _ | refine blk_drew ?_ | refine blk_alloc ?_ _)); refine blk_put (cs := #[.string (⟨#[]⟩ : ByteArray), .int .i64 0, .int .u32 0, .int .u8 0, .int .i64 0]) ?_ 0 _ rfl; (with_reducible repeat (first | refine blk_drewN ?_ _ | refine blk_drew ?_ | refine blk_alloc ?_ _)); exact BK197.out⟩
         have n2_ : Aside0 (Below w.heap.size w (((((w29.setCell ⟨gb197, 0, none⟩ (.string t191)).setCell ⟨gb197, 1, none⟩ (.int .i64 t192)).setCell ⟨gb197, 2, none⟩ (.int .u32 t193)).setCell ⟨gb197, 3, none⟩ (.int .u8 t194)).setCell ⟨gb197, 4, none⟩ (.int .i64 t195))) := ⟨by repeat (first | (with_reducible first | exact HB.out | apply below_alloc | apply pw_below_drewN | apply below_drew1 | refine below_set ?_ GE188.out | refine below_set ?_ GE197.out) | exact HB.out)⟩
         (try clear BK188)
         (try clear BK197)
         (try clear HB)
         generalize (((((w29.setCell ⟨gb197, 0, none⟩ (.string t191)).setCell ⟨gb197, 1, none⟩ (.int .i64 t192)).setCell ⟨gb197, 2, none⟩ (.int .u32 t193)).setCell ⟨gb197, 3, none⟩ (.int .u8 t194)).setCell ⟨gb197, 4, none⟩ (.int .i64 t195)) = w33 at n0_ n1_ n2_ ⊢
         have BK188 := n0_
         have BK197 := n1_
         have HB := n2_
         clear n0_ n1_ n2_
         have n0_ := Aside0.mk (blk_drew BK188.out)
         have n1_ := Aside0.mk (blk_drew BK197.out)
         have n2_ := Aside0.mk (below_drew1 HB.out)
         clear BK188
         clear BK197
         clear HB
         have BK188 := n0_
         have BK197 := n1_
         have HB := n2_
         clear n0_ n1_ n2_
         refine start_ (n := 16) (S := fun w' => w'.cell? ⟨gb197, 0, none⟩ = some (.string t191) ∧ w'.cell? ⟨gb197, 1, none⟩ = some (.int .i64 t192) ∧ w'.cell? ⟨gb197, 2, none⟩ = some (.int .u32 t193) ∧ w'.cell? ⟨gb197, 3, none⟩ = some (.int .u8 t194) ∧ w'.cell? ⟨gb197, 4, none⟩ = some (.int .i64 t195) ∧ w'.cell? ⟨gb188, 0, none⟩ = some (.int .i64 a1_0) ∧ w'.cell? ⟨gb188, 1, none⟩ = some (.int .i64 a1_1) ∧ w'.cell? ⟨gb188, 2, none⟩ = some (.int .i64 a1_2)) (ds := []) #[false, false, false, false, false, false, false, false, false, false, false, false, false, false, false, false] (by kernel_rfl) rfl rfl ⟨(blk_cell BK197.out 0).trans rfl, (blk_cell BK197.out 1).trans rfl, (blk_cell BK197.out 2).trans rfl, (blk_cell BK197.out 3).trans rfl, (blk_cell BK197.out 4).trans rfl, (blk_cell BK188.out 0).trans rfl, (blk_cell BK188.out 1).trans rfl, (blk_cell BK188.out 2).trans rfl⟩ (fun hHeld => ?_); refine with_tabW gambrelref15_Shard.tab5 gambrelref15_Shard.bits5 (fun HT_ HW_ => ?_)
         generalize w33.drew = w34 at BK188 BK197 HB hHeld ⊢
         refine pure_ (i := 0) (N := some 41) (v := ?_) (a' := ?_) #[true, false, false, false, false, false, false, false, false, false, false, false, false, false, false, false] rfl rfl (any_of HT_.out (by kernel_rfl)) (fun _ _ _ h => h) (Or.inl ⟨by rfl, ?_⟩) ?_ ?_
         rotate_left
         ·intro w'
          go_simp
          with_reducible rfl
         rotate_left
         ·simp only [Act.put, List.setIfInBounds_toArray, List.set_cons_zero, List.set_cons_succ, i64_w, i32_w]
          rfl
         refine pure_ (i := 1) (N := some 42) (v := ?_) (a' := ?_) #[true, true, false, false, false, false, false, false, false, false, false, false, false, false, false, false] rfl rfl (any_of HT_.out (by kernel_rfl)) (fun _ _ _ h => h) (Or.inl ⟨by rfl, ?_⟩) ?_ ?_
         rotate_left
         ·intro w'
          go_simp
          with_reducible rfl
         rotate_left
         ·simp only [Act.put, List.setIfInBounds_toArray, List.set_cons_zero, List.set_cons_succ, i64_w, i32_w]
          rfl
         refine pure_ (i := 2) (N := some 43) (v := ?_) (a' := ?_) #[true, true, true, false, false, false, false, false, false, false, false, false, false, false, false, false] rfl rfl (any_of HT_.out (by kernel_rfl)) (fun _ _ _ h => h) (Or.inl ⟨by rfl, ?_⟩) ?_ ?_
         rotate_left
         ·intro w'
          go_simp
          with_reducible rfl
         rotate_left
         ·simp only [Act.put, List.setIfInBounds_toArray, List.set_cons_zero, List.set_cons_succ, i64_w, i32_w]
          rfl
         refine pure_ (i := 7) (N := some 48) (v := ?_) (a' := ?_) #[true, true, true, false, false, false, false, true, false, false, false, false, false, false, false, false] rfl rfl (any_of HT_.out (by kernel_rfl)) (fun _ _ _ h => h) (Or.inl ⟨by rfl, ?_⟩) ?_ ?_
         rotate_left
         ·intro w'
          go_simp
          with_reducible rfl
         rotate_left
         ·simp only [Act.put, List.setIfInBounds_toArray, List.set_cons_zero, List.set_cons_succ, i64_w, i32_w]
          rfl
         refine pure_ (i := 11) (N := some 52) (v := ?_) (a' := ?_) #[true, true, true, false, false, false, false, true, false, false, false, true, false, false, false, false] rfl rfl (any_of HT_.out (by kernel_rfl)) (fun _ _ _ h => h) (Or.inl ⟨by rfl, ?_⟩) ?_ ?_
         rotate_left
         ·intro w'
          go_simp
          with_reducible rfl
         rotate_left
         ·simp only [Act.put, List.setIfInBounds_toArray, List.set_cons_zero, List.set_cons_succ, i64_w, i32_w]
          rfl
         refine take_ (i := 3) (N := some 44) (v := ?_) (a' := ?_) #[true, true, true, true, false, false, false, true, false, false, false, true, false, false, false, false] rfl rfl (take_ofW HT_.out HW_.out (by kernel_rfl)) (fun _ _ _ h => h) (Or.inl ⟨by rfl, ?_⟩) hHeld ?_ ?_
         rotate_left
         ·rintro w' ⟨s0, s1, s2, s3, s4, s5, s6, s7⟩
          go_simp
          with_reducible rfl
         rotate_left
         ·simp only [Act.put, List.setIfInBounds_toArray, List.set_cons_zero, List.set_cons_succ, i64_w, i32_w]
          rfl
         refine take_ (i := 8) (N := some 49) (v := ?_) (a' := ?_) #[true, true, true, true, false, false, false, true, true, false, false, true, false, false, false, false] rfl rfl (take_ofW HT_.out HW_.out (by kernel_rfl)) (fun _ _ _ h => h) (Or.inl ⟨by rfl, ?_⟩) hHeld ?_ ?_
         rotate_left
         ·rintro w' ⟨s0, s1, s2, s3, s4, s5, s6, s7⟩
          go_simp
          with_reducible rfl
         rotate_left
         ·simp only [Act.put, List.setIfInBounds_toArray, List.set_cons_zero, List.set_cons_succ, i64_w, i32_w]
          rfl
         refine join_ (σ := Value) 3 #[true, true, true, true, true, true, true, true, true, true, true, true, true, false, false, false] (fun s_ => [(45, s_), (46, .string (strOfNums y198)), (50, .string t201), (53, .string t202), (47, .string ((a0 ++ (⟨#[46, 100]⟩ : ByteArray)) ++ (strOfNums y198))), (51, .string (((a0 ++ (⟨#[46, 100]⟩ : ByteArray)) ++ (strOfNums y198)) ++ t201))]) (fun s_ w' => (w'.cell? ⟨gb197, 0, none⟩ = some (.string t191) ∧ w'.cell? ⟨gb197, 1, none⟩ = some (.int .i64 t192) ∧ w'.cell? ⟨gb197, 2, none⟩ = some (.int .u32 t193) ∧ w'.cell? ⟨gb197, 3, none⟩ = some (.int .u8 t194) ∧ w'.cell? ⟨gb197, 4, none⟩ = some (.int .i64 t195) ∧ w'.cell? ⟨gb188, 0, none⟩ = some (.int .i64 a1_0) ∧ w'.cell? ⟨gb188, 1, none⟩ = some (.int .i64 a1_1) ∧ w'.cell? ⟨gb188, 2, none⟩ = some (.int .i64 a1_2)) ∧ (Kd.R (Kd.int .u8) 5 w' w.heap.size (fun _ => True) s_ y198) ∧ (w'.heap[gb188]? = some (.cells #[.int .i64 a1_0, .int .i64 a1_1, .int .i64 a1_2] 23 (0, 0))) ∧ (w'.heap[gb197]? = some (.cells #[.string t191, .int .i64 t192, .int .u32 t193, .int .u8 t194, .int .i64 t195] 60 (0, 0))) ∧ (Below w.heap.size w w')) ?_ ?_
         rotate_left
         ·intro hJ4_5_9_12
          refine join_ (σ := Value) 4 #[true, true, true, true, true, true, true, true, true, true, true, true, false, false, false, false] (fun s_ => [(45, s_), (46, .string (strOfNums y198)), (50, .string t201), (47, .string ((a0 ++ (⟨#[46, 100]⟩ : ByteArray)) ++ (strOfNums y198))), (51, .string (((a0 ++ (⟨#[46, 100]⟩ : ByteArray)) ++ (strOfNums y198)) ++ t201))]) (fun s_ w' => (w'.cell? ⟨gb197, 0, none⟩ = some (.string t191) ∧ w'.cell? ⟨gb197, 1, none⟩ = some (.int .i64 t192) ∧ w'.cell? ⟨gb197, 2, none⟩ = some (.int .u32 t193) ∧ w'.cell? ⟨gb197, 3, none⟩ = some (.int .u8 t194) ∧ w'.cell? ⟨gb197, 4, none⟩ = some (.int .i64 t195) ∧ w'.cell? ⟨gb188, 0, none⟩ = some (.int .i64 a1_0) ∧ w'.cell? ⟨gb188, 1, none⟩ = some (.int .i64 a1_1) ∧ w'.cell? ⟨gb188, 2, none⟩ = some (.int .i64 a1_2)) ∧ (Kd.R (Kd.int .u8) 5 w' w.heap.size (fun _ => True) s_ y198) ∧ (w'.heap[gb188]? = some (.cells #[.int .i64 a1_0, .int .i64 a1_1, .int .i64 a1_2] 23 (0, 0))) ∧ (w'.heap[gb197]? = some (.cells #[.string t191, .int .i64 t192, .int .u32 t193, .int .u8 t194, .int .i64 t195] 60 (0, 0))) ∧ (Below w.heap.size w w')) ?_ ?_
          rotate_left
          ·intro hJ4_5_9
           refine join_ (σ := Value) 6 #[true, true, true, true, true, false, false, true, true, true, false, true, true, false, false, false] (fun s_ => [(45, s_), (50, .string t201), (53, .string t202)]) (fun s_ w' => (w'.cell? ⟨gb197, 0, none⟩ = some (.string t191) ∧ w'.cell? ⟨gb197, 1, none⟩ = some (.int .i64 t192) ∧ w'.cell? ⟨gb197, 2, none⟩ = some (.int .u32 t193) ∧ w'.cell? ⟨gb197, 3, none⟩ = some (.int .u8 t194) ∧ w'.cell? ⟨gb197, 4, none⟩ = some (.int .i64 t195) ∧ w'.cell? ⟨gb188, 0, none⟩ = some (.int .i64 a1_0) ∧ w'.cell? ⟨gb188, 1, none⟩ = some (.int .i64 a1_1) ∧ w'.cell? ⟨gb188, 2, none⟩ = some (.int .i64 a1_2)) ∧ (Kd.R (Kd.int .u8) 5 w' w.heap.size (fun _ => True) s_ y198) ∧ (w'.heap[gb188]? = some (.cells #[.int .i64 a1_0, .int .i64 a1_1, .int .i64 a1_2] 23 (0, 0))) ∧ (w'.heap[gb197]? = some (.cells #[.string t191, .int .i64 t192, .int .u32 t193, .int .u8 t194, .int .i64 t195] 60 (0, 0))) ∧ (Below w.heap.size w w')) ?_ ?_
           rotate_left
           ·intro hJ4_9_12
            refine join_ (σ := Value) 6 #[true, true, true, true, true, true, true, true, true, false, false, true, false, false, false, false] (fun s_ => [(45, s_), (46, .string (strOfNums y198)), (47, .string ((a0 ++ (⟨#[46, 100]⟩ : ByteArray)) ++ (strOfNums y198)))]) (fun s_ w' => (w'.cell? ⟨gb197, 0, none⟩ = some (.string t191) ∧ w'.cell? ⟨gb197, 1, none⟩ = some (.int .i64 t192) ∧ w'.cell? ⟨gb197, 2, none⟩ = some (.int .u32 t193) ∧ w'.cell? ⟨gb197, 3, none⟩ = some (.int .u8 t194) ∧ w'.cell? ⟨gb197, 4, none⟩ = some (.int .i64 t195) ∧ w'.cell? ⟨gb188, 0, none⟩ = some (.int .i64 a1_0) ∧ w'.cell? ⟨gb188, 1, none⟩ = some (.int .i64 a1_1) ∧ w'.cell? ⟨gb188, 2, none⟩ = some (.int .i64 a1_2)) ∧ (Kd.R (Kd.int .u8) 5 w' w.heap.size (fun _ => True) s_ y198) ∧ (w'.heap[gb188]? = some (.cells #[.int .i64 a1_0, .int .i64 a1_1, .int .i64 a1_2] 23 (0, 0))) ∧ (w'.heap[gb197]? = some (.cells #[.string t191, .int .i64 t192, .int .u32 t193, .int .u8 t194, .int .i64 t195] 60 (0, 0))) ∧ (Below w.heap.size w w')) ?_ ?_
            rotate_left
            ·intro hJ4_5
             refine join_ (σ := Value) 7 #[true, true, true, true, true, false, false, true, true, true, false, true, false, false, false, false] (fun s_ => [(45, s_), (50, .string t201)]) (fun s_ w' => (w'.cell? ⟨gb197, 0, none⟩ = some (.string t191) ∧ w'.cell? ⟨gb197, 1, none⟩ = some (.int .i64 t192) ∧ w'.cell? ⟨gb197, 2, none⟩ = some (.int .u32 t193) ∧ w'.cell? ⟨gb197, 3, none⟩ = some (.int .u8 t194) ∧ w'.cell? ⟨gb197, 4, none⟩ = some (.int .i64 t195) ∧ w'.cell? ⟨gb188, 0, none⟩ = some (.int .i64 a1_0) ∧ w'.cell? ⟨gb188, 1, none⟩ = some (.int .i64 a1_1) ∧ w'.cell? ⟨gb188, 2, none⟩ = some (.int .i64 a1_2)) ∧ (Kd.R (Kd.int .u8) 5 w' w.heap.size (fun _ => True) s_ y198) ∧ (w'.heap[gb188]? = some (.cells #[.int .i64 a1_0, .int .i64 a1_1, .int .i64 a1_2] 23 (0, 0))) ∧ (w'.heap[gb197]? = some (.cells #[.string t191, .int .i64 t192, .int .u32 t193, .int .u8 t194, .int .i64 t195] 60 (0, 0))) ∧ (Below w.heap.size w w')) ?_ ?_
             rotate_left
             ·intro hJ4_9
              refine join_ (σ := Unit) 7 #[true, true, true, true, false, false, false, true, true, true, false, true, true, false, false, false] (fun s_ => [(50, .string t201), (53, .string t202)]) (fun s_ w' => (w'.cell? ⟨gb197, 0, none⟩ = some (.string t191) ∧ w'.cell? ⟨gb197, 1, none⟩ = some (.int .i64 t192) ∧ w'.cell? ⟨gb197, 2, none⟩ = some (.int .u32 t193) ∧ w'.cell? ⟨gb197, 3, none⟩ = some (.int .u8 t194) ∧ w'.cell? ⟨gb197, 4, none⟩ = some (.int .i64 t195) ∧ w'.cell? ⟨gb188, 0, none⟩ = some (.int .i64 a1_0) ∧ w'.cell? ⟨gb188, 1, none⟩ = some (.int .i64 a1_1) ∧ w'.cell? ⟨gb188, 2, none⟩ = some (.int .i64 a1_2)) ∧ (w'.heap[gb188]? = some (.cells #[.int .i64 a1_0, .int .i64 a1_1, .int .i64 a1_2] 23 (0, 0))) ∧ (w'.heap[gb197]? = some (.cells #[.string t191, .int .i64 t192, .int .u32 t193, .int .u8 t194, .int .i64 t195] 60 (0, 0))) ∧ (Below w.heap.size w w')) ?_ ?_
              rotate_left
              ·intro hJ9_12
               refine join_ (σ := Value) 8 #[true, true, true, true, true, false, false, true, true, false, false, true, false, false, false, false] (fun s_ => [(45, s_)]) (fun s_ w' => (w'.cell? ⟨gb197, 0, none⟩ = some (.string t191) ∧ w'.cell? ⟨gb197, 1, none⟩ = some (.int .i64 t192) ∧ w'.cell? ⟨gb197, 2, none⟩ = some (.int .u32 t193) ∧ w'.cell? ⟨gb197, 3, none⟩ = some (.int .u8 t194) ∧ w'.cell? ⟨gb197, 4, none⟩ = some (.int .i64 t195) ∧ w'.cell? ⟨gb188, 0, none⟩ = some (.int .i64 a1_0) ∧ w'.cell? ⟨gb188, 1, none⟩ = some (.int .i64 a1_1) ∧ w'.cell? ⟨gb188, 2, none⟩ = some (.int .i64 a1_2)) ∧ (Kd.R (Kd.int .u8) 5 w' w.heap.size (fun _ => True) s_ y198) ∧ (w'.heap[gb188]? = some (.cells #[.int .i64 a1_0, .int .i64 a1_1, .int .i64 a1_2] 23 (0, 0))) ∧ (w'.heap[gb197]? = some (.cells #[.string t191, .int .i64 t192, .int .u32 t193, .int .u8 t194, .int .i64 t195] 60 (0, 0))) ∧ (Below w.heap.size w w')) ?_ ?_
               rotate_left
               ·intro hJ4
                refine join_ (σ := Unit) 8 #[true, true, true, true, false, false, false, true, true, true, false, true, false, false, false, false] (fun s_ => [(50, .string t201)]) (fun s_ w' => (w'.cell? ⟨gb197, 0, none⟩ = some (.string t191) ∧ w'.cell? ⟨gb197, 1, none⟩ = some (.int .i64 t192) ∧ w'.cell? ⟨gb197, 2, none⟩ = some (.int .u32 t193) ∧ w'.cell? ⟨gb197, 3, none⟩ = some (.int .u8 t194) ∧ w'.cell? ⟨gb197, 4, none⟩ = some (.int .i64 t195) ∧ w'.cell? ⟨gb188, 0, none⟩ = some (.int .i64 a1_0) ∧ w'.cell? ⟨gb188, 1, none⟩ = some (.int .i64 a1_1) ∧ w'.cell? ⟨gb188, 2, none⟩ = some (.int .i64 a1_2)) ∧ (w'.heap[gb188]? = some (.cells #[.int .i64 a1_0, .int .i64 a1_1, .int .i64 a1_2] 23 (0, 0))) ∧ (w'.heap[gb197]? = some (.cells #[.string t191, .int .i64 t192, .int .u32 t193, .int .u8 t194, .int .i64 t195] 60 (0, 0))) ∧ (Below w.heap.size w w')) ?_ ?_
                rotate_left
                ·intro hJ9
                 refine two_ (i := 4) (j := 9) (Ni := some 45) (Nj := some 50) #[true, true, true, true, true, false, false, true, true, false, false, true, false, false, false, false] #[true, true, true, true, false, false, false, true, true, true, false, true, false, false, false, false] rfl rfl rfl rfl (two_of HT_.out (by kernel_rfl)) (by decide) (by decide) (fun K hK => ?_) (fun K hK => ?_)
                 ·skip
                  refine Kd.R_lit_step (Kd.int .u8) _ 5 ?hg (N := 45) ?hd (xs := ([t194] : List Int)) (inner := [.int .u8 t194]) (ok := fun _ => True) (okp := fun _ => True) ?hr ?hp (fun _ hk => hk) trivial (Below.refl _ _) (Nat.le_refl _) (by simp) ?_; (case hd => rfl); (case hg => rfl); (case hr => first | (go_simp; done) | (go_simp; rfl)); (case hp => exact (Reps.one (show Kd.M (Kd.int .u8) _ _ _ t194 [.int .u8 t194] from rfl) (Reps.none _ _)))
                  intro v199 w35 ho36 hb hg_ hnew_
                  clear hg_ hnew_
                  (first | rw [← Ny198.out] at ho36 | (simp only [Int.reduceToNat] at ho36; rw [← Ny198.out] at ho36))
                  have n0_ := Aside0.mk (Kd.R_lower ho36 (below_size (by repeat (first | (with_reducible first | exact HB.out | apply below_alloc | apply pw_below_drewN | apply below_drew1 | refine below_set ?_ GE188.out | refine below_set ?_ GE197.out) | exact HB.out))))
                  have n1_ := Aside0.mk (blk_below (g := gb188) (o := .cells #[.int .i64 a1_0, .int .i64 a1_1, .int .i64 a1_2] 23 (0, 0)) (by (with_reducible repeat (first | refine blk_drewN ?_ _ | refine blk_drew ?_ | refine blk_alloc ?_ _)); exact BK188.out) hb)
                  have n2_ := Aside0.mk (blk_below (g := gb197) (o := .cells #[.string t191, .int .i64 t192, .int .u32 t193, .int .u8 t194, .int .i64 t195] 60 (0, 0)) (by (with_reducible repeat (first | refine blk_drewN ?_ _ | refine blk_drew ?_ | refine blk_alloc ?_ _)); exact BK197.out) hb)
                  have n3_ := Aside0.mk (below_step (by repeat (first | (with_reducible first | exact HB.out | apply below_alloc | apply pw_below_drewN | apply below_drew1 | refine below_set ?_ GE188.out | refine below_set ?_ GE197.out) | exact HB.out)) hb)
                  clear BK188
                  clear BK197
                  clear HB
                  have HO200 := n0_
                  have BK188 := n1_
                  have BK197 := n2_
                  have HB := n3_
                  clear n0_ n1_ n2_ n3_
                  clear hb ho36
                  refine hK.out _ _ ⟨(blk_cell BK197.out 0).trans rfl, (blk_cell BK197.out 1).trans rfl, (blk_cell BK197.out 2).trans rfl, (blk_cell BK197.out 3).trans rfl, (blk_cell BK197.out 4).trans rfl, (blk_cell BK188.out 0).trans rfl, (blk_cell BK188.out 1).trans rfl, (blk_cell BK188.out 2).trans rfl⟩ (fun hHeld => ?_)
                  clear hK K
                  refine norm_ (a' := ?_) ?_ ?_
                  rotate_left
                  ·show Act.put _ (some 45) _ = _
                   simp only [Act.put, List.setIfInBounds_toArray, List.set_cons_zero, List.set_cons_succ, i64_w, i32_w]
                   rfl
                  exact norm_ (by first | (simp only [putAll, Act.put, List.setIfInBounds_toArray, List.set_cons_zero, List.set_cons_succ]; done) | (simp only [putAll, Act.put, List.setIfInBounds_toArray, List.set_cons_zero, List.set_cons_succ]; rfl)) (hJ4 (v199) _ ⟨hHeld, (by (with_reducible repeat (first | apply Kd.R_alloc | apply Kd.R_drewN | apply Kd.R_drew)); exact HO200.out), (by (with_reducible repeat (first | refine blk_drewN ?_ _ | refine blk_drew ?_ | refine blk_alloc ?_ _)); exact BK188.out), (by (with_reducible repeat (first | refine blk_drewN ?_ _ | refine blk_drew ?_ | refine blk_alloc ?_ _)); exact BK197.out), (by repeat (first | (with_reducible first | exact HB.out | apply below_alloc | apply pw_below_drewN | apply below_drew1 | refine below_set ?_ GE188.out | refine below_set ?_ GE197.out) | exact HB.out))⟩)
                 ·skip
                  refine goes_ Tryd.func31 (by kernel_rfl) rfl #[.int .i64 a1_1] (by rfl) rfl rfl (by (try simp only [List.map_toArray, List.map_cons, List.map_nil]); first | done | rfl | (simp only [List.length_drop, List.length_take]; rfl)) ?_
                  with_reducible refine (gambrelref15_figure.calls a1_1 t201 _ A23.out).mono ?_
                  rintro e w35 ⟨rfl, hb⟩
                  refine ⟨_, rfl, ?_⟩
                  have n0_ := Aside0.mk (blk_below (g := gb188) (o := .cells #[.int .i64 a1_0, .int .i64 a1_1, .int .i64 a1_2] 23 (0, 0)) (by (with_reducible repeat (first | refine blk_drewN ?_ _ | refine blk_drew ?_ | refine blk_alloc ?_ _)); exact BK188.out) hb)
                  have n1_ := Aside0.mk (blk_below (g := gb197) (o := .cells #[.string t191, .int .i64 t192, .int .u32 t193, .int .u8 t194, .int .i64 t195] 60 (0, 0)) (by (with_reducible repeat (first | refine blk_drewN ?_ _ | refine blk_drew ?_ | refine blk_alloc ?_ _)); exact BK197.out) hb)
                  have n2_ := Aside0.mk (below_step (by repeat (first | (with_reducible first | exact HB.out | apply below_alloc | apply pw_below_drewN | apply below_drew1 | refine below_set ?_ GE188.out | refine below_set ?_ GE197.out) | exact HB.out)) hb)
                  clear BK188
                  clear BK197
                  clear HB
                  have BK188 := n0_
                  have BK197 := n1_
                  have HB := n2_
                  clear n0_ n1_ n2_
                  (try clear hb)
                  (try clear hb2)
                  (try clear hk)
                  (try clear hi)
                  refine hK.out _ _ ⟨(blk_cell BK197.out 0).trans rfl, (blk_cell BK197.out 1).trans rfl, (blk_cell BK197.out 2).trans rfl, (blk_cell BK197.out 3).trans rfl, (blk_cell BK197.out 4).trans rfl, (blk_cell BK188.out 0).trans rfl, (blk_cell BK188.out 1).trans rfl, (blk_cell BK188.out 2).trans rfl⟩ (fun hHeld => ?_)
                  clear hK K
                  refine norm_ (a' := ?_) ?_ ?_
                  rotate_left
                  ·show Act.put _ (some 50) _ = _
                   simp only [Act.put, List.setIfInBounds_toArray, List.set_cons_zero, List.set_cons_succ, i64_w, i32_w]
                   rfl
                  exact norm_ (by first | (simp only [putAll, Act.put, List.setIfInBounds_toArray, List.set_cons_zero, List.set_cons_succ]; done) | (simp only [putAll, Act.put, List.setIfInBounds_toArray, List.set_cons_zero, List.set_cons_succ]; rfl)) (hJ9 () _ ⟨hHeld, (by (with_reducible repeat (first | refine blk_drewN ?_ _ | refine blk_drew ?_ | refine blk_alloc ?_ _)); exact BK188.out), (by (with_reducible repeat (first | refine blk_drewN ?_ _ | refine blk_drew ?_ | refine blk_alloc ?_ _)); exact BK197.out), (by repeat (first | (with_reducible first | exact HB.out | apply below_alloc | apply pw_below_drewN | apply below_drew1 | refine below_set ?_ GE188.out | refine below_set ?_ GE197.out) | exact HB.out))⟩)
                ·skip
                 rintro _ w36 ⟨hS_, h0_, h1_, h2_⟩
                 have n0_ : Aside0 (w36.heap[gb188]? = some (.cells #[.int .i64 a1_0, .int .i64 a1_1, .int .i64 a1_2] 23 (0, 0))) := ⟨h0_⟩
                 have n1_ : Aside0 (w36.heap[gb197]? = some (.cells #[.string t191, .int .i64 t192, .int .u32 t193, .int .u8 t194, .int .i64 t195] 60 (0, 0))) := ⟨h1_⟩
                 have n2_ : Aside0 (Below w.heap.size w w36) := ⟨h2_⟩
                 clear BK188
                 clear BK197
                 clear HB
                 clear h0_ h1_ h2_
                 have BK188 := n0_
                 have BK197 := n1_
                 have HB := n2_
                 clear n0_ n1_ n2_
                 have hHeld : w36.cell? ⟨gb197, 0, none⟩ = some (.string t191) ∧ w36.cell? ⟨gb197, 1, none⟩ = some (.int .i64 t192) ∧ w36.cell? ⟨gb197, 2, none⟩ = some (.int .u32 t193) ∧ w36.cell? ⟨gb197, 3, none⟩ = some (.int .u8 t194) ∧ w36.cell? ⟨gb197, 4, none⟩ = some (.int .i64 t195) ∧ w36.cell? ⟨gb188, 0, none⟩ = some (.int .i64 a1_0) ∧ w36.cell? ⟨gb188, 1, none⟩ = some (.int .i64 a1_1) ∧ w36.cell? ⟨gb188, 2, none⟩ = some (.int .i64 a1_2) := hS_
                 refine norm_ (a' := ?_) ?_ ?_
                 rotate_left
                 ·simp only [putAll, Act.put, List.setIfInBounds_toArray, List.set_cons_zero, List.set_cons_succ]
                  rfl
                 refine two_ (i := 4) (j := 12) (Ni := some 45) (Nj := some 53) #[true, true, true, true, true, false, false, true, true, true, false, true, false, false, false, false] #[true, true, true, true, false, false, false, true, true, true, false, true, true, false, false, false] rfl rfl rfl rfl (two_of HT_.out (by kernel_rfl)) (by decide) (by decide) (fun K hK => ?_) (fun K hK => ?_)
                 ·skip
                  refine Kd.R_lit_step (Kd.int .u8) _ 5 ?hg (N := 45) ?hd (xs := ([t194] : List Int)) (inner := [.int .u8 t194]) (ok := fun _ => True) (okp := fun _ => True) ?hr ?hp (fun _ hk => hk) trivial (Below.refl _ _) (Nat.le_refl _) (by simp) ?_; (case hd => rfl); (case hg => rfl); (case hr => first | (go_simp; done) | (go_simp; rfl)); (case hp => exact (Reps.one (show Kd.M (Kd.int .u8) _ _ _ t194 [.int .u8 t194] from rfl) (Reps.none _ _)))
                  intro v199 w37 ho38 hb hg_ hnew_
                  clear hg_ hnew_
                  (first | rw [← Ny198.out] at ho38 | (simp only [Int.reduceToNat] at ho38; rw [← Ny198.out] at ho38))
                  have n0_ := Aside0.mk (Kd.R_lower ho38 (below_size (by repeat (first | (with_reducible first | exact HB.out | apply below_alloc | apply pw_below_drewN | apply below_drew1 | refine below_set ?_ GE188.out | refine below_set ?_ GE197.out) | exact HB.out))))
                  have n1_ := Aside0.mk (blk_below (g := gb188) (o := .cells #[.int .i64 a1_0, .int .i64 a1_1, .int .i64 a1_2] 23 (0, 0)) (by (with_reducible repeat (first | refine blk_drewN ?_ _ | refine blk_drew ?_ | refine blk_alloc ?_ _)); exact BK188.out) hb)
                  have n2_ := Aside0.mk (blk_below (g := gb197) (o := .cells #[.string t191, .int .i64 t192, .int .u32 t193, .int .u8 t194, .int .i64 t195] 60 (0, 0)) (by (with_reducible repeat (first | refine blk_drewN ?_ _ | refine blk_drew ?_ | refine blk_alloc ?_ _)); exact BK197.out) hb)
                  have n3_ := Aside0.mk (below_step (by repeat (first | (with_reducible first | exact HB.out | apply below_alloc | apply pw_below_drewN | apply below_drew1 | refine below_set ?_ GE188.out | refine below_set ?_ GE197.out) | exact HB.out)) hb)
                  clear BK188
                  clear BK197
                  clear HB
                  have HO200 := n0_
                  have BK188 := n1_
                  have BK197 := n2_
                  have HB := n3_
                  clear n0_ n1_ n2_ n3_
                  clear hb ho38
                  refine hK.out _ _ ⟨(blk_cell BK197.out 0).trans rfl, (blk_cell BK197.out 1).trans rfl, (blk_cell BK197.out 2).trans rfl, (blk_cell BK197.out 3).trans rfl, (blk_cell BK197.out 4).trans rfl, (blk_cell BK188.out 0).trans rfl, (blk_cell BK188.out 1).trans rfl, (blk_cell BK188.out 2).trans rfl⟩ (fun hHeld => ?_)
                  clear hK K
                  refine norm_ (a' := ?_) ?_ ?_
                  rotate_left
                  ·show Act.put _ (some 45) _ = _
                   simp only [Act.put, List.setIfInBounds_toArray, List.set_cons_zero, List.set_cons_succ, i64_w, i32_w]
                   rfl
                  exact norm_ (by first | (simp only [putAll, Act.put, List.setIfInBounds_toArray, List.set_cons_zero, List.set_cons_succ]; done) | (simp only [putAll, Act.put, List.setIfInBounds_toArray, List.set_cons_zero, List.set_cons_succ]; rfl)) (hJ4_9 (v199) _ ⟨hHeld, (by (with_reducible repeat (first | apply Kd.R_alloc | apply Kd.R_drewN | apply Kd.R_drew)); exact HO200.out), (by (with_reducible repeat (first | refine blk_drewN ?_ _ | refine blk_drew ?_ | refine blk_alloc ?_ _)); exact BK188.out), (by (with_reducible repeat (first | refine blk_drewN ?_ _ | refine blk_drew ?_ | refine blk_alloc ?_ _)); exact BK197.out), (by repeat (first | (with_reducible first | exact HB.out | apply below_alloc | apply pw_below_drewN | apply below_drew1 | refine below_set ?_ GE188.out | refine below_set ?_ GE197.out) | exact HB.out))⟩)
                 ·skip
                  refine goes_ Tryd.func31 (by kernel_rfl) rfl #[.int .i64 a2] (by rfl) rfl rfl (by (try simp only [List.map_toArray, List.map_cons, List.map_nil]); first | done | rfl | (simp only [List.length_drop, List.length_take]; rfl)) ?_
                  with_reducible refine (gambrelref15_figure.calls a2 t202 _ A25.out).mono ?_
                  rintro e w37 ⟨rfl, hb⟩
                  refine ⟨_, rfl, ?_⟩
                  have n0_ := Aside0.mk (blk_below (g := gb188) (o := .cells #[.int .i64 a1_0, .int .i64 a1_1, .int .i64 a1_2] 23 (0, 0)) (by (with_reducible repeat (first | refine blk_drewN ?_ _ | refine blk_drew ?_ | refine blk_alloc ?_ _)); exact BK188.out) hb)
                  have n1_ := Aside0.mk (blk_below (g := gb197) (o := .cells #[.string t191, .int .i64 t192, .int .u32 t193, .int .u8 t194, .int .i64 t195] 60 (0, 0)) (by (with_reducible repeat (first | refine blk_drewN ?_ _ | refine blk_drew ?_ | refine blk_alloc ?_ _)); exact BK197.out) hb)
                  have n2_ := Aside0.mk (below_step (by repeat (first | (with_reducible first | exact HB.out | apply below_alloc | apply pw_below_drewN | apply below_drew1 | refine below_set ?_ GE188.out | refine below_set ?_ GE197.out) | exact HB.out)) hb)
                  clear BK188
                  clear BK197
                  clear HB
                  have BK188 := n0_
                  have BK197 := n1_
                  have HB := n2_
                  clear n0_ n1_ n2_
                  (try clear hb)
                  (try clear hb2)
                  (try clear hk)
                  (try clear hi)
                  refine hK.out _ _ ⟨(blk_cell BK197.out 0).trans rfl, (blk_cell BK197.out 1).trans rfl, (blk_cell BK197.out 2).trans rfl, (blk_cell BK197.out 3).trans rfl, (blk_cell BK197.out 4).trans rfl, (blk_cell BK188.out 0).trans rfl, (blk_cell BK188.out 1).trans rfl, (blk_cell BK188.out 2).trans rfl⟩ (fun hHeld => ?_)
                  clear hK K
                  refine norm_ (a' := ?_) ?_ ?_
                  rotate_left
                  ·show Act.put _ (some 53) _ = _
                   simp only [Act.put, List.setIfInBounds_toArray, List.set_cons_zero, List.set_cons_succ, i64_w, i32_w]
                   rfl
                  exact norm_ (by first | (simp only [putAll, Act.put, List.setIfInBounds_toArray, List.set_cons_zero, List.set_cons_succ]; done) | (simp only [putAll, Act.put, List.setIfInBounds_toArray, List.set_cons_zero, List.set_cons_succ]; rfl)) (hJ9_12 () _ ⟨hHeld, (by (with_reducible repeat (first | refine blk_drewN ?_ _ | refine blk_drew ?_ | refine blk_alloc ?_ _)); exact BK188.out), (by (with_reducible repeat (first | refine blk_drewN ?_ _ | refine blk_drew ?_ | refine blk_alloc ?_ _)); exact BK197.out), (by repeat (first | (with_reducible first | exact HB.out | apply below_alloc | apply pw_below_drewN | apply below_drew1 | refine below_set ?_ GE188.out | refine below_set ?_ GE197.out) | exact HB.out))⟩)
               ·skip
                rintro v199 w37 ⟨hS_, h0_, h1_, h2_, h3_⟩
                have n0_ : Aside0 (Kd.R (Kd.int .u8) 5 w37 w.heap.size (fun _ => True) v199 y198) := ⟨h0_⟩
                have n1_ : Aside0 (w37.heap[gb188]? = some (.cells #[.int .i64 a1_0, .int .i64 a1_1, .int .i64 a1_2] 23 (0, 0))) := ⟨h1_⟩
                have n2_ : Aside0 (w37.heap[gb197]? = some (.cells #[.string t191, .int .i64 t192, .int .u32 t193, .int .u8 t194, .int .i64 t195] 60 (0, 0))) := ⟨h2_⟩
                have n3_ : Aside0 (Below w.heap.size w w37) := ⟨h3_⟩
                clear BK188
                clear BK197
                clear HB
                clear h0_ h1_ h2_ h3_
                have HO200 := n0_
                have BK188 := n1_
                have BK197 := n2_
                have HB := n3_
                clear n0_ n1_ n2_ n3_
                have hHeld : w37.cell? ⟨gb197, 0, none⟩ = some (.string t191) ∧ w37.cell? ⟨gb197, 1, none⟩ = some (.int .i64 t192) ∧ w37.cell? ⟨gb197, 2, none⟩ = some (.int .u32 t193) ∧ w37.cell? ⟨gb197, 3, none⟩ = some (.int .u8 t194) ∧ w37.cell? ⟨gb197, 4, none⟩ = some (.int .i64 t195) ∧ w37.cell? ⟨gb188, 0, none⟩ = some (.int .i64 a1_0) ∧ w37.cell? ⟨gb188, 1, none⟩ = some (.int .i64 a1_1) ∧ w37.cell? ⟨gb188, 2, none⟩ = some (.int .i64 a1_2) := hS_
                refine norm_ (a' := ?_) ?_ ?_
                rotate_left
                ·simp only [putAll, Act.put, List.setIfInBounds_toArray, List.set_cons_zero, List.set_cons_succ]
                 rfl
                refine two_ (i := 5) (j := 9) (Ni := some 46) (Nj := some 50) #[true, true, true, true, true, true, false, true, true, false, false, true, false, false, false, false] #[true, true, true, true, true, false, false, true, true, true, false, true, false, false, false, false] rfl rfl rfl rfl (two_of HT_.out (by kernel_rfl)) (by decide) (by decide) (fun K hK => ?_) (fun K hK => ?_)
                ·skip
                 have hcv38 := own_string (P := Tryd.prog) Tryd.underlying71 Tryd.underlying5 Tryd.underlying9 (Kd.own_of_R HO200.out)
                 refine value_ (w1 := ?_) (v := ?_) (by rfl) rfl ?_ ?_
                 rotate_left 2
                 ·go_simp
                  constructor
                  ·rfl
                  ·rfl
                 clear hcv38
                 refine hK.out _ _ ⟨(blk_cell BK197.out 0).trans rfl, (blk_cell BK197.out 1).trans rfl, (blk_cell BK197.out 2).trans rfl, (blk_cell BK197.out 3).trans rfl, (blk_cell BK197.out 4).trans rfl, (blk_cell BK188.out 0).trans rfl, (blk_cell BK188.out 1).trans rfl, (blk_cell BK188.out 2).trans rfl⟩ (fun hHeld => ?_)
                 clear hK K
                 refine norm_ (a' := ?_) ?_ ?_
                 rotate_left
                 ·show Act.put _ (some 46) _ = _
                  simp only [Act.put, List.setIfInBounds_toArray, List.set_cons_zero, List.set_cons_succ, i64_w, i32_w]
                  rfl
                 refine pure_ (i := 6) (N := some 47) (v := ?_) (a' := ?_) #[true, true, true, true, true, true, true, true, true, false, false, true, false, false, false, false] rfl rfl (any_of HT_.out (by kernel_rfl)) (fun _ _ _ h => h) (Or.inl ⟨by rfl, ?_⟩) ?_ ?_
                 rotate_left
                 ·intro w'
                  go_simp
                  with_reducible rfl
                 rotate_left
                 ·simp only [Act.put, List.setIfInBounds_toArray, List.set_cons_zero, List.set_cons_succ, i64_w, i32_w]
                  rfl
                 exact norm_ (by first | (simp only [putAll, Act.put, List.setIfInBounds_toArray, List.set_cons_zero, List.set_cons_succ]; done) | (simp only [putAll, Act.put, List.setIfInBounds_toArray, List.set_cons_zero, List.set_cons_succ]; rfl)) (hJ4_5 (v199) _ ⟨hHeld, (by (with_reducible repeat (first | apply Kd.R_alloc | apply Kd.R_drewN | apply Kd.R_drew)); exact HO200.out), (by (with_reducible repeat (first | refine blk_drewN ?_ _ | refine blk_drew ?_ | refine blk_alloc ?_ _)); exact BK188.out), (by (with_reducible repeat (first | refine blk_drewN ?_ _ | refine blk_drew ?_ | refine blk_alloc ?_ _)); exact BK197.out), (by repeat (first | (with_reducible first | exact HB.out | apply below_alloc | apply pw_below_drewN | apply below_drew1 | refine below_set ?_ GE188.out | refine below_set ?_ GE197.out) | exact HB.out))⟩)
                ·skip
                 refine goes_ Tryd.func31 (by kernel_rfl) rfl #[.int .i64 a1_1] (by rfl) rfl rfl (by (try simp only [List.map_toArray, List.map_cons, List.map_nil]); first | done | rfl | (simp only [List.length_drop, List.length_take]; rfl)) ?_
                 with_reducible refine (gambrelref15_figure.calls a1_1 t201 _ A23.out).mono ?_
                 rintro e w38 ⟨rfl, hb⟩
                 refine ⟨_, rfl, ?_⟩
                 have n0_ := Aside0.mk (Kd.R_below (by (with_reducible repeat (first | apply Kd.R_alloc | apply Kd.R_drewN | apply Kd.R_drew)); exact HO200.out) hb)
                 have n1_ := Aside0.mk (blk_below (g := gb188) (o := .cells #[.int .i64 a1_0, .int .i64 a1_1, .int .i64 a1_2] 23 (0, 0)) (by (with_reducible repeat (first | refine blk_drewN ?_ _ | refine blk_drew ?_ | refine blk_alloc ?_ _)); exact BK188.out) hb)
                 have n2_ := Aside0.mk (blk_below (g := gb197) (o := .cells #[.string t191, .int .i64 t192, .int .u32 t193, .int .u8 t194, .int .i64 t195] 60 (0, 0)) (by (with_reducible repeat (first | refine blk_drewN ?_ _ | refine blk_drew ?_ | refine blk_alloc ?_ _)); exact BK197.out) hb)
                 have n3_ := Aside0.mk (below_step (by repeat (first | (with_reducible first | exact HB.out | apply below_alloc | apply pw_below_drewN | apply below_drew1 | refine below_set ?_ GE188.out | refine below_set ?_ GE197.out) | exact HB.out)) hb)
                 clear HO200
                 clear BK188
                 clear BK197
                 clear HB
                 have HO200 := n0_
                 have BK188 := n1_
                 have BK197 := n2_
                 have HB := n3_
                 clear n0_ n1_ n2_ n3_
                 (try clear hb)
                 (try clear hb2)
                 (try clear hk)
                 (try clear hi)
                 refine hK.out _ _ ⟨(blk_cell BK197.out 0).trans rfl, (blk_cell BK197.out 1).trans rfl, (blk_cell BK197.out 2).trans rfl, (blk_cell BK197.out 3).trans rfl, (blk_cell BK197.out 4).trans rfl, (blk_cell BK188.out 0).trans rfl, (blk_cell BK188.out 1).trans rfl, (blk_cell BK188.out 2).trans rfl⟩ (fun hHeld => ?_)
                 clear hK K
                 refine norm_ (a' := ?_) ?_ ?_
                 rotate_left
                 ·show Act.put _ (some 50) _ = _
                  simp only [Act.put, List.setIfInBounds_toArray, List.set_cons_zero, List.set_cons_succ, i64_w, i32_w]
                  rfl
                 exact norm_ (by first | (simp only [putAll, Act.put, List.setIfInBounds_toArray, List.set_cons_zero, List.set_cons_succ]; done) | (simp only [putAll, Act.put, List.setIfInBounds_toArray, List.set_cons_zero, List.set_cons_succ]; rfl)) (hJ4_9 (v199) _ ⟨hHeld, (by (with_reducible repeat (first | apply Kd.R_alloc | apply Kd.R_drewN | apply Kd.R_drew)); exact HO200.out), (by (with_reducible repeat (first | refine blk_drewN ?_ _ | refine blk_drew ?_ | refine blk_alloc ?_ _)); exact BK188.out), (by (with_reducible repeat (first | refine blk_drewN ?_ _ | refine blk_drew ?_ | refine blk_alloc ?_ _)); exact BK197.out), (by repeat (first | (with_reducible first | exact HB.out | apply below_alloc | apply pw_below_drewN | apply below_drew1 | refine below_set ?_ GE188.out | refine below_set ?_ GE197.out) | exact HB.out))⟩)
              ·skip
               rintro _ w37 ⟨hS_, h0_, h1_, h2_⟩
               have n0_ : Aside0 (w37.heap[gb188]? = some (.cells #[.int .i64 a1_0, .int .i64 a1_1, .int .i64 a1_2] 23 (0, 0))) := ⟨h0_⟩
               have n1_ : Aside0 (w37.heap[gb197]? = some (.cells #[.string t191, .int .i64 t192, .int .u32 t193, .int .u8 t194, .int .i64 t195] 60 (0, 0))) := ⟨h1_⟩
               have n2_ : Aside0 (Below w.heap.size w w37) := ⟨h2_⟩
               clear BK188
               clear BK197
               clear HB
               clear h0_ h1_ h2_
               have BK188 := n0_
               have BK197 := n1_
               have HB := n2_
               clear n0_ n1_ n2_
               have hHeld : w37.cell? ⟨gb197, 0, none⟩ = some (.string t191) ∧ w37.cell? ⟨gb197, 1, none⟩ = some (.int .i64 t192) ∧ w37.cell? ⟨gb197, 2, none⟩ = some (.int .u32 t193) ∧ w37.cell? ⟨gb197, 3, none⟩ = some (.int .u8 t194) ∧ w37.cell? ⟨gb197, 4, none⟩ = some (.int .i64 t195) ∧ w37.cell? ⟨gb188, 0, none⟩ = some (.int .i64 a1_0) ∧ w37.cell? ⟨gb188, 1, none⟩ = some (.int .i64 a1_1) ∧ w37.cell? ⟨gb188, 2, none⟩ = some (.int .i64 a1_2) := hS_
               refine norm_ (a' := ?_) ?_ ?_
               rotate_left
               ·simp only [putAll, Act.put, List.setIfInBounds_toArray, List.set_cons_zero, List.set_cons_succ]
                rfl
               refine one_ (i := 4) (N := some 45) #[true, true, true, true, true, false, false, true, true, true, false, true, true, false, false, false] rfl rfl (one_of HT_.out (by kernel_rfl)) (by decide) (fun K hK => ?_)
               refine Kd.R_lit_step (Kd.int .u8) _ 5 ?hg (N := 45) ?hd (xs := ([t194] : List Int)) (inner := [.int .u8 t194]) (ok := fun _ => True) (okp := fun _ => True) ?hr ?hp (fun _ hk => hk) trivial (Below.refl _ _) (Nat.le_refl _) (by simp) ?_; (case hd => rfl); (case hg => rfl); (case hr => first | (go_simp; done) | (go_simp; rfl)); (case hp => exact (Reps.one (show Kd.M (Kd.int .u8) _ _ _ t194 [.int .u8 t194] from rfl) (Reps.none _ _)))
               intro v199 w38 ho39 hb hg_ hnew_
               clear hg_ hnew_
               (first | rw [← Ny198.out] at ho39 | (simp only [Int.reduceToNat] at ho39; rw [← Ny198.out] at ho39))
               have n0_ := Aside0.mk (Kd.R_lower ho39 (below_size (by repeat (first | (with_reducible first | exact HB.out | apply below_alloc | apply pw_below_drewN | apply below_drew1 | refine below_set ?_ GE188.out | refine below_set ?_ GE197.out) | exact HB.out))))
               have n1_ := Aside0.mk (blk_below (g := gb188) (o := .cells #[.int .i64 a1_0, .int .i64 a1_1, .int .i64 a1_2] 23 (0, 0)) (by (with_reducible repeat (first | refine blk_drewN ?_ _ | refine blk_drew ?_ | refine blk_alloc ?_ _)); exact BK188.out) hb)
               have n2_ := Aside0.mk (blk_below (g := gb197) (o := .cells #[.string t191, .int .i64 t192, .int .u32 t193, .int .u8 t194, .int .i64 t195] 60 (0, 0)) (by (with_reducible repeat (first | refine blk_drewN ?_ _ | refine blk_drew ?_ | refine blk_alloc ?_ _)); exact BK197.out) hb)
               have n3_ := Aside0.mk (below_step (by repeat (first | (with_reducible first | exact HB.out | apply below_alloc | apply pw_below_drewN | apply below_drew1 | refine below_set ?_ GE188.out | refine below_set ?_ GE197.out) | exact HB.out)) hb)
               clear BK188
               clear BK197
               clear HB
               have HO200 := n0_
               have BK188 := n1_
               have BK197 := n2_
               have HB := n3_
               clear n0_ n1_ n2_ n3_
               clear hb ho39
               refine hK.out _ _ ⟨(blk_cell BK197.out 0).trans rfl, (blk_cell BK197.out 1).trans rfl, (blk_cell BK197.out 2).trans rfl, (blk_cell BK197.out 3).trans rfl, (blk_cell BK197.out 4).trans rfl, (blk_cell BK188.out 0).trans rfl, (blk_cell BK188.out 1).trans rfl, (blk_cell BK188.out 2).trans rfl⟩ (fun hHeld => ?_)
               clear hK K
               refine norm_ (a' := ?_) ?_ ?_
               rotate_left
               ·show Act.put _ (some 45) _ = _
                simp only [Act.put, List.setIfInBounds_toArray, List.set_cons_zero, List.set_cons_succ, i64_w, i32_w]
                rfl
               exact norm_ (by first | (simp only [putAll, Act.put, List.setIfInBounds_toArray, List.set_cons_zero, List.set_cons_succ]; done) | (simp only [putAll, Act.put, List.setIfInBounds_toArray, List.set_cons_zero, List.set_cons_succ]; rfl)) (hJ4_9_12 (v199) _ ⟨hHeld, (by (with_reducible repeat (first | apply Kd.R_alloc | apply Kd.R_drewN | apply Kd.R_drew)); exact HO200.out), (by (with_reducible repeat (first | refine blk_drewN ?_ _ | refine blk_drew ?_ | refine blk_alloc ?_ _)); exact BK188.out), (by (with_reducible repeat (first | refine blk_drewN ?_ _ | refine blk_drew ?_ | refine blk_alloc ?_ _)); exact BK197.out), (by repeat (first | (with_reducible first | exact HB.out | apply below_alloc | apply pw_below_drewN | apply below_drew1 | refine below_set ?_ GE188.out | refine below_set ?_ GE197.out) | exact HB.out))⟩)
             ·skip
              rintro v199 w38 ⟨hS_, h0_, h1_, h2_, h3_⟩
              have n0_ : Aside0 (Kd.R (Kd.int .u8) 5 w38 w.heap.size (fun _ => True) v199 y198) := ⟨h0_⟩
              have n1_ : Aside0 (w38.heap[gb188]? = some (.cells #[.int .i64 a1_0, .int .i64 a1_1, .int .i64 a1_2] 23 (0, 0))) := ⟨h1_⟩
              have n2_ : Aside0 (w38.heap[gb197]? = some (.cells #[.string t191, .int .i64 t192, .int .u32 t193, .int .u8 t194, .int .i64 t195] 60 (0, 0))) := ⟨h2_⟩
              have n3_ : Aside0 (Below w.heap.size w w38) := ⟨h3_⟩
              clear BK188
              clear BK197
              clear HB
              clear h0_ h1_ h2_ h3_
              have HO200 := n0_
              have BK188 := n1_
              have BK197 := n2_
              have HB := n3_
              clear n0_ n1_ n2_ n3_
              have hHeld : w38.cell? ⟨gb197, 0, none⟩ = some (.string t191) ∧ w38.cell? ⟨gb197, 1, none⟩ = some (.int .i64 t192) ∧ w38.cell? ⟨gb197, 2, none⟩ = some (.int .u32 t193) ∧ w38.cell? ⟨gb197, 3, none⟩ = some (.int .u8 t194) ∧ w38.cell? ⟨gb197, 4, none⟩ = some (.int .i64 t195) ∧ w38.cell? ⟨gb188, 0, none⟩ = some (.int .i64 a1_0) ∧ w38.cell? ⟨gb188, 1, none⟩ = some (.int .i64 a1_1) ∧ w38.cell? ⟨gb188, 2, none⟩ = some (.int .i64 a1_2) := hS_
              refine norm_ (a' := ?_) ?_ ?_
              rotate_left
              ·simp only [putAll, Act.put, List.setIfInBounds_toArray, List.set_cons_zero, List.set_cons_succ]
               rfl
              refine two_ (i := 5) (j := 12) (Ni := some 46) (Nj := some 53) #[true, true, true, true, true, true, false, true, true, true, false, true, false, false, false, false] #[true, true, true, true, true, false, false, true, true, true, false, true, true, false, false, false] rfl rfl rfl rfl (two_of HT_.out (by kernel_rfl)) (by decide) (by decide) (fun K hK => ?_) (fun K hK => ?_)
              ·skip
               have hcv39 := own_string (P := Tryd.prog) Tryd.underlying71 Tryd.underlying5 Tryd.underlying9 (Kd.own_of_R HO200.out)
               refine value_ (w1 := ?_) (v := ?_) (by rfl) rfl ?_ ?_
               rotate_left 2
               ·go_simp
                constructor
                ·rfl
                ·rfl
               clear hcv39
               refine hK.out _ _ ⟨(blk_cell BK197.out 0).trans rfl, (blk_cell BK197.out 1).trans rfl, (blk_cell BK197.out 2).trans rfl, (blk_cell BK197.out 3).trans rfl, (blk_cell BK197.out 4).trans rfl, (blk_cell BK188.out 0).trans rfl, (blk_cell BK188.out 1).trans rfl, (blk_cell BK188.out 2).trans rfl⟩ (fun hHeld => ?_)
               clear hK K
               refine norm_ (a' := ?_) ?_ ?_
               rotate_left
               ·show Act.put _ (some 46) _ = _
                simp only [Act.put, List.setIfInBounds_toArray, List.set_cons_zero, List.set_cons_succ, i64_w, i32_w]
                rfl
               refine pure_ (i := 6) (N := some 47) (v := ?_) (a' := ?_) #[true, true, true, true, true, true, true, true, true, true, false, true, false, false, false, false] rfl rfl (any_of HT_.out (by kernel_rfl)) (fun _ _ _ h => h) (Or.inl ⟨by rfl, ?_⟩) ?_ ?_
               rotate_left
               ·intro w'
                go_simp
                with_reducible rfl
               rotate_left
               ·simp only [Act.put, List.setIfInBounds_toArray, List.set_cons_zero, List.set_cons_succ, i64_w, i32_w]
                rfl
               refine pure_ (i := 10) (N := some 51) (v := ?_) (a' := ?_) #[true, true, true, true, true, true, true, true, true, true, true, true, false, false, false, false] rfl rfl (any_of HT_.out (by kernel_rfl)) (fun _ _ _ h => h) (Or.inl ⟨by rfl, ?_⟩) ?_ ?_
               rotate_left
               ·intro w'
                go_simp
                with_reducible rfl
               rotate_left
               ·simp only [Act.put, List.setIfInBounds_toArray, List.set_cons_zero, List.set_cons_succ, i64_w, i32_w]
                rfl
               exact norm_ (by first | (simp only [putAll, Act.put, List.setIfInBounds_toArray, List.set_cons_zero, List.set_cons_succ]; done) | (simp only [putAll, Act.put, List.setIfInBounds_toArray, List.set_cons_zero, List.set_cons_succ]; rfl)) (hJ4_5_9 (v199) _ ⟨hHeld, (by (with_reducible repeat (first | apply Kd.R_alloc | apply Kd.R_drewN | apply Kd.R_drew)); exact HO200.out), (by (with_reducible repeat (first | refine blk_drewN ?_ _ | refine blk_drew ?_ | refine blk_alloc ?_ _)); exact BK188.out), (by (with_reducible repeat (first | refine blk_drewN ?_ _ | refine blk_drew ?_ | refine blk_alloc ?_ _)); exact BK197.out), (by repeat (first | (with_reducible first | exact HB.out | apply below_alloc | apply pw_below_drewN | apply below_drew1 | refine below_set ?_ GE188.out | refine below_set ?_ GE197.out) | exact HB.out))⟩)
              ·skip
               refine goes_ Tryd.func31 (by kernel_rfl) rfl #[.int .i64 a2] (by rfl) rfl rfl (by (try simp only [List.map_toArray, List.map_cons, List.map_nil]); first | done | rfl | (simp only [List.length_drop, List.length_take]; rfl)) ?_
               with_reducible refine (gambrelref15_figure.calls a2 t202 _ A25.out).mono ?_
               rintro e w39 ⟨rfl, hb⟩
               refine ⟨_, rfl, ?_⟩
               have n0_ := Aside0.mk (Kd.R_below (by (with_reducible repeat (first | apply Kd.R_alloc | apply Kd.R_drewN | apply Kd.R_drew)); exact HO200.out) hb)
               have n1_ := Aside0.mk (blk_below (g := gb188) (o := .cells #[.int .i64 a1_0, .int .i64 a1_1, .int .i64 a1_2] 23 (0, 0)) (by (with_reducible repeat (first | refine blk_drewN ?_ _ | refine blk_drew ?_ | refine blk_alloc ?_ _)); exact BK188.out) hb)
               have n2_ := Aside0.mk (blk_below (g := gb197) (o := .cells #[.string t191, .int .i64 t192, .int .u32 t193, .int .u8 t194, .int .i64 t195] 60 (0, 0)) (by (with_reducible repeat (first | refine blk_drewN ?_ _ | refine blk_drew ?_ | refine blk_alloc ?_ _)); exact BK197.out) hb)
               have n3_ := Aside0.mk (below_step (by repeat (first | (with_reducible first | exact HB.out | apply below_alloc | apply pw_below_drewN | apply below_drew1 | refine below_set ?_ GE188.out | refine below_set ?_ GE197.out) | exact HB.out)) hb)
               clear HO200
               clear BK188
               clear BK197
               clear HB
               have HO200 := n0_
               have BK188 := n1_
               have BK197 := n2_
               have HB := n3_
               clear n0_ n1_ n2_ n3_
               (try clear hb)
               (try clear hb2)
               (try clear hk)
               (try clear hi)
               refine hK.out _ _ ⟨(blk_cell BK197.out 0).trans rfl, (blk_cell BK197.out 1).trans rfl, (blk_cell BK197.out 2).trans rfl, (blk_cell BK197.out 3).trans rfl, (blk_cell BK197.out 4).trans rfl, (blk_cell BK188.out 0).trans rfl, (blk_cell BK188.out 1).trans rfl, (blk_cell BK188.out 2).trans rfl⟩ (fun hHeld => ?_)
               clear hK K
               refine norm_ (a' := ?_) ?_ ?_
               rotate_left
               ·show Act.put _ (some 53) _ = _
                simp only [Act.put, List.setIfInBounds_toArray, List.set_cons_zero, List.set_cons_succ, i64_w, i32_w]
                rfl
               exact norm_ (by first | (simp only [putAll, Act.put, List.setIfInBounds_toArray, List.set_cons_zero, List.set_cons_succ]; done) | (simp only [putAll, Act.put, List.setIfInBounds_toArray, List.set_cons_zero, List.set_cons_succ]; rfl)) (hJ4_9_12 (v199) _ ⟨hHeld, (by (with_reducible repeat (first | apply Kd.R_alloc | apply Kd.R_drewN | apply Kd.R_drew)); exact HO200.out), (by (with_reducible repeat (first | refine blk_drewN ?_ _ | refine blk_drew ?_ | refine blk_alloc ?_ _)); exact BK188.out), (by (with_reducible repeat (first | refine blk_drewN ?_ _ | refine blk_drew ?_ | refine blk_alloc ?_ _)); exact BK197.out), (by repeat (first | (with_reducible first | exact HB.out | apply below_alloc | apply pw_below_drewN | apply below_drew1 | refine below_set ?_ GE188.out | refine below_set ?_ GE197.out) | exact HB.out))⟩)
            ·skip
             rintro v199 w38 ⟨hS_, h0_, h1_, h2_, h3_⟩
             have n0_ : Aside0 (Kd.R (Kd.int .u8) 5 w38 w.heap.size (fun _ => True) v199 y198) := ⟨h0_⟩
             have n1_ : Aside0 (w38.heap[gb188]? = some (.cells #[.int .i64 a1_0, .int .i64 a1_1, .int .i64 a1_2] 23 (0, 0))) := ⟨h1_⟩
             have n2_ : Aside0 (w38.heap[gb197]? = some (.cells #[.string t191, .int .i64 t192, .int .u32 t193, .int .u8 t194, .int .i64 t195] 60 (0, 0))) := ⟨h2_⟩
             have n3_ : Aside0 (Below w.heap.size w w38) := ⟨h3_⟩
             clear BK188
             clear BK197
             clear HB
             clear h0_ h1_ h2_ h3_
             have HO200 := n0_
             have BK188 := n1_
             have BK197 := n2_
             have HB := n3_
             clear n0_ n1_ n2_ n3_
             have hHeld : w38.cell? ⟨gb197, 0, none⟩ = some (.string t191) ∧ w38.cell? ⟨gb197, 1, none⟩ = some (.int .i64 t192) ∧ w38.cell? ⟨gb197, 2, none⟩ = some (.int .u32 t193) ∧ w38.cell? ⟨gb197, 3, none⟩ = some (.int .u8 t194) ∧ w38.cell? ⟨gb197, 4, none⟩ = some (.int .i64 t195) ∧ w38.cell? ⟨gb188, 0, none⟩ = some (.int .i64 a1_0) ∧ w38.cell? ⟨gb188, 1, none⟩ = some (.int .i64 a1_1) ∧ w38.cell? ⟨gb188, 2, none⟩ = some (.int .i64 a1_2) := hS_
             refine norm_ (a' := ?_) ?_ ?_
             rotate_left
             ·simp only [putAll, Act.put, List.setIfInBounds_toArray, List.set_cons_zero, List.set_cons_succ]
              rfl
             refine one_ (i := 9) (N := some 50) #[true, true, true, true, true, true, true, true, true, true, false, true, false, false, false, false] rfl rfl (one_of HT_.out (by kernel_rfl)) (by decide) (fun K hK => ?_)
             refine goes_ Tryd.func31 (by kernel_rfl) rfl #[.int .i64 a1_1] (by rfl) rfl rfl (by (try simp only [List.map_toArray, List.map_cons, List.map_nil]); first | done | rfl | (simp only [List.length_drop, List.length_take]; rfl)) ?_
             with_reducible refine (gambrelref15_figure.calls a1_1 t201 _ A23.out).mono ?_
             rintro e w39 ⟨rfl, hb⟩
             refine ⟨_, rfl, ?_⟩
             have n0_ := Aside0.mk (Kd.R_below (by (with_reducible repeat (first | apply Kd.R_alloc | apply Kd.R_drewN | apply Kd.R_drew)); exact HO200.out) hb)
             have n1_ := Aside0.mk (blk_below (g := gb188) (o := .cells #[.int .i64 a1_0, .int .i64 a1_1, .int .i64 a1_2] 23 (0, 0)) (by (with_reducible repeat (first | refine blk_drewN ?_ _ | refine blk_drew ?_ | refine blk_alloc ?_ _)); exact BK188.out) hb)
             have n2_ := Aside0.mk (blk_below (g := gb197) (o := .cells #[.string t191, .int .i64 t192, .int .u32 t193, .int .u8 t194, .int .i64 t195] 60 (0, 0)) (by (with_reducible repeat (first | refine blk_drewN ?_ _ | refine blk_drew ?_ | refine blk_alloc ?_ _)); exact BK197.out) hb)
             have n3_ := Aside0.mk (below_step (by repeat (first | (with_reducible first | exact HB.out | apply below_alloc | apply pw_below_drewN | apply below_drew1 | refine below_set ?_ GE188.out | refine below_set ?_ GE197.out) | exact HB.out)) hb)
             clear HO200
             clear BK188
             clear BK197
             clear HB
             have HO200 := n0_
             have BK188 := n1_
             have BK197 := n2_
             have HB := n3_
             clear n0_ n1_ n2_ n3_
             (try clear hb)
             (try clear hb2)
             (try clear hk)
             (try clear hi)
             refine hK.out _ _ ⟨(blk_cell BK197.out 0).trans rfl, (blk_cell BK197.out 1).trans rfl, (blk_cell BK197.out 2).trans rfl, (blk_cell BK197.out 3).trans rfl, (blk_cell BK197.out 4).trans rfl, (blk_cell BK188.out 0).trans rfl, (blk_cell BK188.out 1).trans rfl, (blk_cell BK188.out 2).trans rfl⟩ (fun hHeld => ?_)
             clear hK K
             refine norm_ (a' := ?_) ?_ ?_
             rotate_left
             ·show Act.put _ (some 50) _ = _
              simp only [Act.put, List.setIfInBounds_toArray, List.set_cons_zero, List.set_cons_succ, i64_w, i32_w]
              rfl
             refine pure_ (i := 10) (N := some 51) (v := ?_) (a' := ?_) #[true, true, true, true, true, true, true, true, true, true, true, true, false, false, false, false] rfl rfl (any_of HT_.out (by kernel_rfl)) (fun _ _ _ h => h) (Or.inl ⟨by rfl, ?_⟩) ?_ ?_
             rotate_left
             ·intro w'
              go_simp
              with_reducible rfl
             rotate_left
             ·simp only [Act.put, List.setIfInBounds_toArray, List.set_cons_zero, List.set_cons_succ, i64_w, i32_w]
              rfl
             exact norm_ (by first | (simp only [putAll, Act.put, List.setIfInBounds_toArray, List.set_cons_zero, List.set_cons_succ]; done) | (simp only [putAll, Act.put, List.setIfInBounds_toArray, List.set_cons_zero, List.set_cons_succ]; rfl)) (hJ4_5_9 (v199) _ ⟨hHeld, (by (with_reducible repeat (first | apply Kd.R_alloc | apply Kd.R_drewN | apply Kd.R_drew)); exact HO200.out), (by (with_reducible repeat (first | refine blk_drewN ?_ _ | refine blk_drew ?_ | refine blk_alloc ?_ _)); exact BK188.out), (by (with_reducible repeat (first | refine blk_drewN ?_ _ | refine blk_drew ?_ | refine blk_alloc ?_ _)); exact BK197.out), (by repeat (first | (with_reducible first | exact HB.out | apply below_alloc | apply pw_below_drewN | apply below_drew1 | refine below_set ?_ GE188.out | refine below_set ?_ GE197.out) | exact HB.out))⟩)
           ·skip
            rintro v199 w39 ⟨hS_, h0_, h1_, h2_, h3_⟩
            have n0_ : Aside0 (Kd.R (Kd.int .u8) 5 w39 w.heap.size (fun _ => True) v199 y198) := ⟨h0_⟩
            have n1_ : Aside0 (w39.heap[gb188]? = some (.cells #[.int .i64 a1_0, .int .i64 a1_1, .int .i64 a1_2] 23 (0, 0))) := ⟨h1_⟩
            have n2_ : Aside0 (w39.heap[gb197]? = some (.cells #[.string t191, .int .i64 t192, .int .u32 t193, .int .u8 t194, .int .i64 t195] 60 (0, 0))) := ⟨h2_⟩
            have n3_ : Aside0 (Below w.heap.size w w39) := ⟨h3_⟩
            clear BK188
            clear BK197
            clear HB
            clear h0_ h1_ h2_ h3_
            have HO200 := n0_
            have BK188 := n1_
            have BK197 := n2_
            have HB := n3_
            clear n0_ n1_ n2_ n3_
            have hHeld : w39.cell? ⟨gb197, 0, none⟩ = some (.string t191) ∧ w39.cell? ⟨gb197, 1, none⟩ = some (.int .i64 t192) ∧ w39.cell? ⟨gb197, 2, none⟩ = some (.int .u32 t193) ∧ w39.cell? ⟨gb197, 3, none⟩ = some (.int .u8 t194) ∧ w39.cell? ⟨gb197, 4, none⟩ = some (.int .i64 t195) ∧ w39.cell? ⟨gb188, 0, none⟩ = some (.int .i64 a1_0) ∧ w39.cell? ⟨gb188, 1, none⟩ = some (.int .i64 a1_1) ∧ w39.cell? ⟨gb188, 2, none⟩ = some (.int .i64 a1_2) := hS_
            refine norm_ (a' := ?_) ?_ ?_
            rotate_left
            ·simp only [putAll, Act.put, List.setIfInBounds_toArray, List.set_cons_zero, List.set_cons_succ]
             rfl
            refine one_ (i := 5) (N := some 46) #[true, true, true, true, true, true, false, true, true, true, false, true, true, false, false, false] rfl rfl (one_of HT_.out (by kernel_rfl)) (by decide) (fun K hK => ?_)
            have hcv40 := own_string (P := Tryd.prog) Tryd.underlying71 Tryd.underlying5 Tryd.underlying9 (Kd.own_of_R HO200.out)
            refine value_ (w1 := ?_) (v := ?_) (by rfl) rfl ?_ ?_
            rotate_left 2
            ·go_simp
             constructor
             ·rfl
             ·rfl
            clear hcv40
            refine hK.out _ _ ⟨(blk_cell BK197.out 0).trans rfl, (blk_cell BK197.out 1).trans rfl, (blk_cell BK197.out 2).trans rfl, (blk_cell BK197.out 3).trans rfl, (blk_cell BK197.out 4).trans rfl, (blk_cell BK188.out 0).trans rfl, (blk_cell BK188.out 1).trans rfl, (blk_cell BK188.out 2).trans rfl⟩ (fun hHeld => ?_)
            clear hK K
            refine norm_ (a' := ?_) ?_ ?_
            rotate_left
            ·show Act.put _ (some 46) _ = _
             simp only [Act.put, List.setIfInBounds_toArray, List.set_cons_zero, List.set_cons_succ, i64_w, i32_w]
             rfl
            refine pure_ (i := 6) (N := some 47) (v := ?_) (a' := ?_) #[true, true, true, true, true, true, true, true, true, true, false, true, true, false, false, false] rfl rfl (any_of HT_.out (by kernel_rfl)) (fun _ _ _ h => h) (Or.inl ⟨by rfl, ?_⟩) ?_ ?_
            rotate_left
            ·intro w'
             go_simp
             with_reducible rfl
            rotate_left
            ·simp only [Act.put, List.setIfInBounds_toArray, List.set_cons_zero, List.set_cons_succ, i64_w, i32_w]
             rfl
            refine pure_ (i := 10) (N := some 51) (v := ?_) (a' := ?_) #[true, true, true, true, true, true, true, true, true, true, true, true, true, false, false, false] rfl rfl (any_of HT_.out (by kernel_rfl)) (fun _ _ _ h => h) (Or.inl ⟨by rfl, ?_⟩) ?_ ?_
            rotate_left
            ·intro w'
             go_simp
             with_reducible rfl
            rotate_left
            ·simp only [Act.put, List.setIfInBounds_toArray, List.set_cons_zero, List.set_cons_succ, i64_w, i32_w]
             rfl
            exact norm_ (by first | (simp only [putAll, Act.put, List.setIfInBounds_toArray, List.set_cons_zero, List.set_cons_succ]; done) | (simp only [putAll, Act.put, List.setIfInBounds_toArray, List.set_cons_zero, List.set_cons_succ]; rfl)) (hJ4_5_9_12 (v199) _ ⟨hHeld, (by (with_reducible repeat (first | apply Kd.R_alloc | apply Kd.R_drewN | apply Kd.R_drew)); exact HO200.out), (by (with_reducible repeat (first | refine blk_drewN ?_ _ | refine blk_drew ?_ | refine blk_alloc ?_ _)); exact BK188.out), (by (with_reducible repeat (first | refine blk_drewN ?_ _ | refine blk_drew ?_ | refine blk_alloc ?_ _)); exact BK197.out), (by repeat (first | (with_reducible first | exact HB.out | apply below_alloc | apply pw_below_drewN | apply below_drew1 | refine below_set ?_ GE188.out | refine below_set ?_ GE197.out) | exact HB.out))⟩)
          ·skip
           rintro v199 w39 ⟨hS_, h0_, h1_, h2_, h3_⟩
           have n0_ : Aside0 (Kd.R (Kd.int .u8) 5 w39 w.heap.size (fun _ => True) v199 y198) := ⟨h0_⟩
           have n1_ : Aside0 (w39.heap[gb188]? = some (.cells #[.int .i64 a1_0, .int .i64 a1_1, .int .i64 a1_2] 23 (0, 0))) := ⟨h1_⟩
           have n2_ : Aside0 (w39.heap[gb197]? = some (.cells #[.string t191, .int .i64 t192, .int .u32 t193, .int .u8 t194, .int .i64 t195] 60 (0, 0))) := ⟨h2_⟩
           have n3_ : Aside0 (Below w.heap.size w w39) := ⟨h3_⟩
           clear BK188
           clear BK197
           clear HB
           clear h0_ h1_ h2_ h3_
           have HO200 := n0_
           have BK188 := n1_
           have BK197 := n2_
           have HB := n3_
           clear n0_ n1_ n2_ n3_
           have hHeld : w39.cell? ⟨gb197, 0, none⟩ = some (.string t191) ∧ w39.cell? ⟨gb197, 1, none⟩ = some (.int .i64 t192) ∧ w39.cell? ⟨gb197, 2, none⟩ = some (.int .u32 t193) ∧ w39.cell? ⟨gb197, 3, none⟩ = some (.int .u8 t194) ∧ w39.cell? ⟨gb197, 4, none⟩ = some (.int .i64 t195) ∧ w39.cell? ⟨gb188, 0, none⟩ = some (.int .i64 a1_0) ∧ w39.cell? ⟨gb188, 1, none⟩ = some (.int .i64 a1_1) ∧ w39.cell? ⟨gb188, 2, none⟩ = some (.int .i64 a1_2) := hS_
           refine norm_ (a' := ?_) ?_ ?_
           rotate_left
           ·simp only [putAll, Act.put, List.setIfInBounds_toArray, List.set_cons_zero, List.set_cons_succ]
            rfl
           refine one_ (i := 12) (N := some 53) #[true, true, true, true, true, true, true, true, true, true, true, true, true, false, false, false] rfl rfl (one_of HT_.out (by kernel_rfl)) (by decide) (fun K hK => ?_)
           refine goes_ Tryd.func31 (by kernel_rfl) rfl #[.int .i64 a2] (by rfl) rfl rfl (by (try simp only [List.map_toArray, List.map_cons, List.map_nil]); first | done | rfl | (simp only [List.length_drop, List.length_take]; rfl)) ?_
           with_reducible refine (gambrelref15_figure.calls a2 t202 _ A25.out).mono ?_
           rintro e w40 ⟨rfl, hb⟩
           refine ⟨_, rfl, ?_⟩
           have n0_ := Aside0.mk (Kd.R_below (by (with_reducible repeat (first | apply Kd.R_alloc | apply Kd.R_drewN | apply Kd.R_drew)); exact HO200.out) hb)
           have n1_ := Aside0.mk (blk_below (g := gb188) (o := .cells #[.int .i64 a1_0, .int .i64 a1_1, .int .i64 a1_2] 23 (0, 0)) (by (with_reducible repeat (first | refine blk_drewN ?_ _ | refine blk_drew ?_ | refine blk_alloc ?_ _)); exact BK188.out) hb)
           have n2_ := Aside0.mk (blk_below (g := gb197) (o := .cells #[.string t191, .int .i64 t192, .int .u32 t193, .int .u8 t194, .int .i64 t195] 60 (0, 0)) (by (with_reducible repeat (first | refine blk_drewN ?_ _ | refine blk_drew ?_ | refine blk_alloc ?_ _)); exact BK197.out) hb)
           have n3_ := Aside0.mk (below_step (by repeat (first | (with_reducible first | exact HB.out | apply below_alloc | apply pw_below_drewN | apply below_drew1 | refine below_set ?_ GE188.out | refine below_set ?_ GE197.out) | exact HB.out)) hb)
           clear HO200
           clear BK188
           clear BK197
           clear HB
           have HO200 := n0_
           have BK188 := n1_
           have BK197 := n2_
           have HB := n3_
           clear n0_ n1_ n2_ n3_
           (try clear hb)
           (try clear hb2)
           (try clear hk)
           (try clear hi)
           refine hK.out _ _ ⟨(blk_cell BK197.out 0).trans rfl, (blk_cell BK197.out 1).trans rfl, (blk_cell BK197.out 2).trans rfl, (blk_cell BK197.out 3).trans rfl, (blk_cell BK197.out 4).trans rfl, (blk_cell BK188.out 0).trans rfl, (blk_cell BK188.out 1).trans rfl, (blk_cell BK188.out 2).trans rfl⟩ (fun hHeld => ?_)
           clear hK K
           refine norm_ (a' := ?_) ?_ ?_
           rotate_left
           ·show Act.put _ (some 53) _ = _
            simp only [Act.put, List.setIfInBounds_toArray, List.set_cons_zero, List.set_cons_succ, i64_w, i32_w]
            rfl
           exact norm_ (by first | (simp only [putAll, Act.put, List.setIfInBounds_toArray, List.set_cons_zero, List.set_cons_succ]; done) | (simp only [putAll, Act.put, List.setIfInBounds_toArray, List.set_cons_zero, List.set_cons_succ]; rfl)) (hJ4_5_9_12 (v199) _ ⟨hHeld, (by (with_reducible repeat (first | apply Kd.R_alloc | apply Kd.R_drewN | apply Kd.R_drew)); exact HO200.out), (by (with_reducible repeat (first | refine blk_drewN ?_ _ | refine blk_drew ?_ | refine blk_alloc ?_ _)); exact BK188.out), (by (with_reducible repeat (first | refine blk_drewN ?_ _ | refine blk_drew ?_ | refine blk_alloc ?_ _)); exact BK197.out), (by repeat (first | (with_reducible first | exact HB.out | apply below_alloc | apply pw_below_drewN | apply below_drew1 | refine below_set ?_ GE188.out | refine below_set ?_ GE197.out) | exact HB.out))⟩)
         rintro v199 w40 ⟨hS_, h0_, h1_, h2_, h3_⟩
         have n0_ : Aside0 (Kd.R (Kd.int .u8) 5 w40 w.heap.size (fun _ => True) v199 y198) := ⟨h0_⟩
         have n1_ : Aside0 (w40.heap[gb188]? = some (.cells #[.int .i64 a1_0, .int .i64 a1_1, .int .i64 a1_2] 23 (0, 0))) := ⟨h1_⟩
         have n2_ : Aside0 (w40.heap[gb197]? = some (.cells #[.string t191, .int .i64 t192, .int .u32 t193, .int .u8 t194, .int .i64 t195] 60 (0, 0))) := ⟨h2_⟩
         have n3_ : Aside0 (Below w.heap.size w w40) := ⟨h3_⟩
         clear BK188
         clear BK197
         clear HB
         clear h0_ h1_ h2_ h3_
         have HO200 := n0_
         have BK188 := n1_
         have BK197 := n2_
         have HB := n3_
         clear n0_ n1_ n2_ n3_
         have hHeld : w40.cell? ⟨gb197, 0, none⟩ = some (.string t191) ∧ w40.cell? ⟨gb197, 1, none⟩ = some (.int .i64 t192) ∧ w40.cell? ⟨gb197, 2, none⟩ = some (.int .u32 t193) ∧ w40.cell? ⟨gb197, 3, none⟩ = some (.int .u8 t194) ∧ w40.cell? ⟨gb197, 4, none⟩ = some (.int .i64 t195) ∧ w40.cell? ⟨gb188, 0, none⟩ = some (.int .i64 a1_0) ∧ w40.cell? ⟨gb188, 1, none⟩ = some (.int .i64 a1_1) ∧ w40.cell? ⟨gb188, 2, none⟩ = some (.int .i64 a1_2) := hS_
         refine norm_ (a' := ?_) ?_ ?_
         rotate_left
         ·simp only [putAll, Act.put, List.setIfInBounds_toArray, List.set_cons_zero, List.set_cons_succ]
          rfl
         refine pure_ (i := 13) (N := some 54) (v := ?_) (a' := ?_) #[true, true, true, true, true, true, true, true, true, true, true, true, true, true, false, false] rfl rfl (any_of HT_.out (by kernel_rfl)) (fun _ _ _ h => h) (Or.inl ⟨by rfl, ?_⟩) ?_ ?_
         rotate_left
         ·intro w'
          go_simp
          with_reducible rfl
         rotate_left
         ·simp only [Act.put, List.setIfInBounds_toArray, List.set_cons_zero, List.set_cons_succ, i64_w, i32_w]
          rfl
         refine pure_ (i := 14) (N := some 6) (v := ?_) (a' := ?_) #[true, true, true, true, true, true, true, true, true, true, true, true, true, true, true, false] rfl rfl (any_of HT_.out (by kernel_rfl)) (fun _ _ _ h => h) (Or.inl ⟨by rfl, ?_⟩) ?_ ?_
         rotate_left
         ·intro w'
          go_simp
          with_reducible rfl
         rotate_left
         ·simp only [Act.put, List.setIfInBounds_toArray, List.set_cons_zero, List.set_cons_succ, i64_w, i32_w]
          rfl
         refine pure_ (i := 15) (N := some 7) (v := ?_) (a' := ?_) #[true, true, true, true, true, true, true, true, true, true, true, true, true, true, true, true] rfl rfl (any_of HT_.out (by kernel_rfl)) (fun _ _ _ h => h) (Or.inl ⟨by rfl, ?_⟩) ?_ ?_
         rotate_left
         ·intro w'
          go_simp
          with_reducible rfl
         rotate_left
         ·simp only [Act.put, List.setIfInBounds_toArray, List.set_cons_zero, List.set_cons_succ, i64_w, i32_w]
          rfl
         refine done_ (done_of HT_.out (by kernel_rfl)) ?_
         try go_wp2
         go_ret2
         exact ⟨by first | rfl | (simp [errW_none, errW_some] <;> rfl) | (simp [*, errW_none, errW_some] <;> rfl), by repeat (first | (with_reducible first | exact HB.out | apply below_alloc | apply pw_below_drewN | apply below_drew1 | refine below_set ?_ GE188.out | refine below_set ?_ GE197.out) | exact HB.out)⟩
        ·rw [if_neg c26] at H
         exact absurd H (by simp)
       ·rw [if_neg c24] at H
        exact absurd H (by simp)
      ·rw [if_neg c22] at H
       exact absurd H (by simp)
     ·rw [if_neg c21] at H
      exact absurd H (by simp)
    ·rw [if_neg c20] at H
     have c20b0 : decide (a2 < a1_1) = false := decide_eq_false c20
     clear c20
     by_cases c41 : a0.size + 2 ≤ 9223372036854775807
     ·rw [if_pos c41] at H
      have c41b0 := eq_true c41
      have c41b1 : decide (a0.size + 2 ≤ 9223372036854775807) = true := decide_eq_true c41
      try have c41b2 : (9223372036854775807 < a0.size + 2) = False := eq_false (Nat.not_lt.2 c41)
      by_cases c42 : (a0 ++ (⟨#[46, 112]⟩ : ByteArray)).size + t191.size ≤ 9223372036854775807
      ·rw [if_pos c42] at H
       have c42b0 := eq_true c42
       have c42b1 : decide ((a0 ++ (⟨#[46, 112]⟩ : ByteArray)).size + t191.size ≤ 9223372036854775807) = true := decide_eq_true c42
       try have c42b2 : (9223372036854775807 < (a0 ++ (⟨#[46, 112]⟩ : ByteArray)).size + t191.size) = False := eq_false (Nat.not_lt.2 c42)
       try have c42b3 : (9223372036854775807 < a0.size + 2 + t191.size) = False := eq_false (by have h_ := c42; simp only [ByteArray.size_append] at h_; exact Nat.not_lt.2 h_)
       replace H := Option.bind_eq_some_iff.mp H
       obtain ⟨t203, A430, H⟩ := H
       replace H : (if ((a0 ++ (⟨#[46, 112]⟩ : ByteArray)) ++ t191).size + t203.size ≤ 9223372036854775807 then ((gambrelref15_figure.f a1_2).bind fun t204 => (if (((a0 ++ (⟨#[46, 112]⟩ : ByteArray)) ++ t191) ++ t203).size + t204.size ≤ 9223372036854775807 then ((gambrelref15_figure.f (wrap64 (a2 - a1_1))).bind fun t205 => (if ((((a0 ++ (⟨#[46, 112]⟩ : ByteArray)) ++ t191) ++ t203) ++ t204).size + t205.size ≤ 9223372036854775807 then (some (((((a0 ++ (⟨#[46, 112]⟩ : ByteArray)) ++ t191) ++ t203) ++ t204) ++ t205, 0)) else (none))) else (none))) else (none)) = some (r1, r2) := H
       have A43 := Aside0.mk A430
       clear A430
       by_cases c44 : ((a0 ++ (⟨#[46, 112]⟩ : ByteArray)) ++ t191).size + t203.size ≤ 9223372036854775807
       ·rw [if_pos c44] at H
        have c44b0 := eq_true c44
        have c44b1 : decide (((a0 ++ (⟨#[46, 112]⟩ : ByteArray)) ++ t191).size + t203.size ≤ 9223372036854775807) = true := decide_eq_true c44
        try have c44b2 : (9223372036854775807 < ((a0 ++ (⟨#[46, 112]⟩ : ByteArray)) ++ t191).size + t203.size) = False := eq_false (Nat.not_lt.2 c44)
        try have c44b3 : (9223372036854775807 < a0.size + 2 + t191.size + t203.size) = False := eq_false (by have h_ := c44; simp only [ByteArray.size_append] at h_; exact Nat.not_lt.2 h_)
        replace H := Option.bind_eq_some_iff.mp H
        obtain ⟨t204, A450, H⟩ := H
        replace H : (if (((a0 ++ (⟨#[46, 112]⟩ : ByteArray)) ++ t191) ++ t203).size + t204.size ≤ 9223372036854775807 then ((gambrelref15_figure.f (wrap64 (a2 - a1_1))).bind fun t205 => (if ((((a0 ++ (⟨#[46, 112]⟩ : ByteArray)) ++ t191) ++ t203) ++ t204).size + t205.size ≤ 9223372036854775807 then (some (((((a0 ++ (⟨#[46, 112]⟩ : ByteArray)) ++ t191) ++ t203) ++ t204) ++ t205, 0)) else (none))) else (none)) = some (r1, r2) := H
        have A45 := Aside0.mk A450
        clear A450
        by_cases c46 : (((a0 ++ (⟨#[46, 112]⟩ : ByteArray)) ++ t191) ++ t203).size + t204.size ≤ 9223372036854775807
        ·rw [if_pos c46] at H
         have c46b0 := eq_true c46
         have c46b1 : decide ((((a0 ++ (⟨#[46, 112]⟩ : ByteArray)) ++ t191) ++ t203).size + t204.size ≤ 9223372036854775807) = true := decide_eq_true c46
         try have c46b2 : (9223372036854775807 < (((a0 ++ (⟨#[46, 112]⟩ : ByteArray)) ++ t191) ++ t203).size + t204.size) = False := eq_false (Nat.not_lt.2 c46)
         try have c46b3 : (9223372036854775807 < a0.size + 2 + t191.size + t203.size + t204.size) = False := eq_false (by have h_ := c46; simp only [ByteArray.size_append] at h_; exact Nat.not_lt.2 h_)
         replace H := Option.bind_eq_some_iff.mp H
         obtain ⟨t205, A470, H⟩ := H
         replace H : (if ((((a0 ++ (⟨#[46, 112]⟩ : ByteArray)) ++ t191) ++ t203) ++ t204).size + t205.size ≤ 9223372036854775807 then (some (((((a0 ++ (⟨#[46, 112]⟩ : ByteArray)) ++ t191) ++ t203) ++ t204) ++ t205, 0)) else (none)) = some (r1, r2) := H
         have A47 := Aside0.mk A470
         clear A470
         by_cases c48 : ((((a0 ++ (⟨#[46, 112]⟩ : ByteArray)) ++ t191) ++ t203) ++ t204).size + t205.size ≤ 9223372036854775807
         ·rw [if_pos c48] at H
          have c48b0 := eq_true c48
          have c48b1 : decide (((((a0 ++ (⟨#[46, 112]⟩ : ByteArray)) ++ t191) ++ t203) ++ t204).size + t205.size ≤ 9223372036854775807) = true := decide_eq_true c48
          try have c48b2 : (9223372036854775807 < ((((a0 ++ (⟨#[46, 112]⟩ : ByteArray)) ++ t191) ++ t203) ++ t204).size + t205.size) = False := eq_false (Nat.not_lt.2 c48)
          try have c48b3 : (9223372036854775807 < a0.size + 2 + t191.size + t203.size + t204.size + t205.size) = False := eq_false (by have h_ := c48; simp only [ByteArray.size_append] at h_; exact Nat.not_lt.2 h_)
          simp only [Option.some.injEq, Prod.mk.injEq] at H
          obtain ⟨rfl, rfl⟩ := H
          have hcz49_0 : wc.cell? ⟨gb188, 0, none⟩ = some (.int .i64 a1_0) := (blk_cell BK188.out 0).trans rfl
          have hcz49_1 : wc.cell? ⟨gb188, 1, none⟩ = some (.int .i64 a1_1) := (blk_cell BK188.out 1).trans rfl
          have hcz49_2 : wc.cell? ⟨gb188, 2, none⟩ = some (.int .i64 a1_2) := (blk_cell BK188.out 2).trans rfl
          have hfz49_0 := blk_frozen BK188.out 0
          have hfz49_1 := blk_frozen BK188.out 1
          have hfz49_2 := blk_frozen BK188.out 2
          try go_wp2_with (first | ((with_reducible refine gate_callee (f := 24) rfl ?_); refine goesL_ (some 34) rfl rfl Tryd.func24 (by kernel_rfl) rfl #[.int .i64 a1_0] rfl (by (try simp only [List.map_toArray, List.map_cons, List.map_nil]); first | done | rfl | (simp only [List.length_drop, List.length_take]; rfl)) ?_; (with_reducible refine (gambrelref09_Of.calls a1_0 t191 t192 t193 t194 t195 t196 _ A19.out).mono ?_); rintro e w50 ⟨rfl, hb⟩; refine ⟨_, rfl, ?_⟩; have n0_ := Aside0.mk (blk_below (g := gb188) (o := .cells #[.int .i64 a1_0, .int .i64 a1_1, .int .i64 a1_2] 23 (0, 0)) (by (with_reducible repeat (first | refine blk_drewN ?_ _ | refine blk_drew ?_ | refine blk_alloc ?_ _)); exact BK188.out) hb); have n1_ := Aside0.mk (below_step (by repeat (first | (with_reducible first | exact HB.out | apply below_alloc | apply pw_below_drewN | apply below_drew1 | refine below_set ?_ GE188.out) | exact HB.out)) hb); clear BK188; clear HB; have BK188 := n0_; have HB := n1_; clear n0_ n1_; (try clear hb); (try clear hb2); (try clear hk); (try clear hi)) | ((with_reducible refine gate_dst (N := 8) rfl ?_); refine box_event ?hg (N := 8) ?hd (cs := #[.string (⟨#[]⟩ : ByteArray), .int .i64 0, .int .u32 0, .int .u8 0, .int .i64 0]) (t := 60) ?hr ?_; (case hd => rfl); (case hg => rfl); (case hr => first | (go_simp; done) | (go_simp; rfl)); intro gb197 hg w51 hbox hb; have n0_ := Aside0.mk (blk_below (g := gb188) (o := .cells #[.int .i64 a1_0, .int .i64 a1_1, .int .i64 a1_2] 23 (0, 0)) (by (with_reducible repeat (first | refine blk_drewN ?_ _ | refine blk_drew ?_ | refine blk_alloc ?_ _)); exact BK188.out) hb); have n1_ := Aside0.mk (below_step (by repeat (first | (with_reducible first | exact HB.out | apply below_alloc | apply pw_below_drewN | apply below_drew1 | refine below_set ?_ GE188.out) | exact HB.out)) hb); have n2_ := Aside0.mk (hbox); have n3_ := Aside0.mk ((by rw [hg]; exact (below_size (by repeat (first | (with_reducible first | exact HB.out | apply below_alloc | apply pw_below_drewN | apply below_drew1 | refine below_set ?_ GE188.out) | exact HB.out))) : w.heap.size ≤ gb197)); have n4_ := Aside0.mk ((by rw [hg]; exact (below_size (by repeat (first | (with_reducible first | exact HB.out | apply below_alloc | apply pw_below_drewN | apply below_drew1 | refine below_set ?_ GE188.out) | exact HB.out))) : w.heap.size ≤ gb197)); have n5_ := Aside0.mk ((by rw [hg]; exact Nat.ne_of_lt (blk_lt (g := gb188) (o := .cells #[.int .i64 a1_0, .int .i64 a1_1, .int .i64 a1_2] 23 (0, 0)) (by (with_reducible repeat (first | refine blk_drewN ?_ _ | refine blk_drew ?_ | refine blk_alloc ?_ _)); exact BK188.out)) : gb188 ≠ gb197)); have n6_ := Aside0.mk ((by rw [hg]; exact Nat.ne_of_gt (blk_lt (g := gb188) (o := .cells #[.int .i64 a1_0, .int .i64 a1_1, .int .i64 a1_2] 23 (0, 0)) (by (with_reducible repeat (first | refine blk_drewN ?_ _ | refine blk_drew ?_ | refine blk_alloc ?_ _)); exact BK188.out)) : gb197 ≠ gb188)); clear BK188; clear HB; have BK188 := n0_; have HB := n1_; have BK197 := n2_; have GW197 := n3_; have GE197 := n4_; have NB188_197 := n5_; have NB197_188 := n6_; clear n0_ n1_ n2_ n3_ n4_ n5_ n6_; clear hb hbox hg; have hnb52 := NB197_188.out; have hnc52 := NB188_197.out; have hcz53_0 : w51.cell? ⟨gb197, 0, none⟩ = some (.string (⟨#[]⟩ : ByteArray)) := (blk_cell BK197.out 0).trans rfl; have hcz53_1 : w51.cell? ⟨gb197, 1, none⟩ = some (.int .i64 0) := (blk_cell BK197.out 1).trans rfl; have hcz53_2 : w51.cell? ⟨gb197, 2, none⟩ = some (.int .u32 0) := (blk_cell BK197.out 2).trans rfl; have hcz53_3 : w51.cell? ⟨gb197, 3, none⟩ = some (.int .u8 0) := (blk_cell BK197.out 3).trans rfl; have hcz53_4 : w51.cell? ⟨gb197, 4, none⟩ = some (.int .i64 0) := (blk_cell BK197.out 4).trans rfl; have hfz53_0 := blk_frozen BK197.out 0; have hfz53_1 := blk_frozen BK197.out 1; have hfz53_2 := blk_frozen BK197.out 2; have hfz53_3 := blk_frozen BK197.out 3; have hfz53_4 := blk_frozen BK197.out 4; have hcz54_0 : w51.cell? ⟨gb188, 0, none⟩ = some (.int .i64 a1_0) := (blk_cell BK188.out 0).trans rfl; have hcz54_1 : w51.cell? ⟨gb188, 1, none⟩ = some (.int .i64 a1_1) := (blk_cell BK188.out 1).trans rfl; have hcz54_2 : w51.cell? ⟨gb188, 2, none⟩ = some (.int .i64 a1_2) := (blk_cell BK188.out 2).trans rfl; have hfz54_0 := blk_frozen BK188.out 0; have hfz54_1 := blk_frozen BK188.out 1; have hfz54_2 := blk_frozen BK188.out 2))
          have n0_ : Aside0 ((((((w51.setCell ⟨gb197, 0, none⟩ (.string t191)).setCell ⟨gb197, 1, none⟩ (.int .i64 t192)).setCell ⟨gb197, 2, none⟩ (.int .u32 t193)).setCell ⟨gb197, 3, none⟩ (.int .u8 t194)).setCell ⟨gb197, 4, none⟩ (.int .i64 t195)).heap[gb188]? = some (.cells #[.int .i64 a1_0, .int .i64 a1_1, .int .i64 a1_2] 23 (0, 0))) := ⟨by (with_reducible repeat (first | refine blk_drewN ?_ _ | refine blk_drew ?_ | refine blk_alloc ?_ _)); refine blk_far ?_ NB188_197.out _; (with_reducible repeat (first | refine blk_drewN ?_ _ | refine blk_drew ?_ | refine blk_alloc ?_ _)); refine blk_far ?_ NB188_197.out _; (with_reducible repeat (first | refine blk_drewN ?_ _ | refine blk_drew ?_ | refine blk_alloc ?_ _)); refine blk_far ?_ NB188_197.out _; (with_reducible repeat (first | refine blk_drewN ?_ _ | refine blk_drew ?_ | refine blk_alloc ?_ _)); refine blk_far ?_ NB188_197.out _; (with_reducible repeat (first | refine blk_drewN ?_ _ | refine blk_drew ?_ | refine blk_alloc ?_ _)); refine blk_far ?_ NB188_197.out _; (with_reducible repeat (first | refine blk_drewN ?_ _ | refine blk_drew ?_ | refine blk_alloc ?_ _)); exact BK188.out⟩
          have n1_ : Aside0 ((((((w51.setCell ⟨gb197, 0, none⟩ (.string t191)).setCell ⟨gb197, 1, none⟩ (.int .i64 t192)).setCell ⟨gb197, 2, none⟩ (.int .u32 t193)).setCell ⟨gb197, 3, none⟩ (.int .u8 t194)).setCell ⟨gb197, 4, none⟩ (.int .i64 t195)).heap[gb197]? = some (.cells #[.string t191, .int .i64 t192, .int .u32 t193, .int .u8 t194, .int .i64 t195] 60 (0, 0))) := ⟨by (with_reducible repeat (first | refine blk_drewN ?_ _ | refine blk_drew ?_ | refine blk_alloc ?_ _)); refine blk_put (cs := #[.string t191, .int .i64 t192, .int .u32 t193, .int .u8 t194, .int .i64 0]) ?_ 4 _ rfl; (with_reducible repeat (first | refine blk_drewN ?_ _ | refine blk_drew ?_ | refine blk_alloc ?_ _)); refine blk_put (cs := #[.string t191, .int .i64 t192, .int .u32 t193, .int .u8 0, .int .i64 0]) ?_ 3 _ rfl; (with_reducible repeat (first | refine blk_drewN ?_ _ | refine blk_drew ?_ | refine blk_alloc ?_ _)); refine blk_put (cs := #[.string t191, .int .i64 t192, .int .u32 0, .int .u8 0, .int .i64 0]) ?_ 2 _ rfl; (with_reducible repeat (first | refine blk_drewN ?_ _ | refine blk_drew ?_ | refine blk_alloc ?_ _)); refine blk_put (cs := #[.string t191, .int .i64 0, .int .u32 0, .int .u8 0, .int .i64 0]) ?_ 1 _ rfl; (with_reducible repeat (first | refine blk_drewN ?_ _ | refine blk_drew ?_ | refine blk_alloc ?_ _)); refine blk_put (cs := #[.string (⟨#[]⟩ : ByteArray), .int .i64 0, .int .u32 0, .int .u8 0, .int .i64 0]) ?_ 0 _ rfl; (with_reducible repeat (first | refine blk_drewN ?_ _ | refine blk_drew ?_ | refine blk_alloc ?_ _)); exact BK197.out⟩
          have n2_ : Aside0 (Below w.heap.size w (((((w51.setCell ⟨gb197, 0, none⟩ (.string t191)).setCell ⟨gb197, 1, none⟩ (.int .i64 t192)).setCell ⟨gb197, 2, none⟩ (.int .u32 t193)).setCell ⟨gb197, 3, none⟩ (.int .u8 t194)).setCell ⟨gb197, 4, none⟩ (.int .i64 t195))) := ⟨by repeat (first | (with_reducible first | exact HB.out | apply below_alloc | apply pw_below_drewN | apply below_drew1 | refine below_set ?_ GE188.out | refine below_set ?_ GE197.out) | exact HB.out)⟩
          (try clear BK188)
          (try clear BK197)
          (try clear HB)
          generalize (((((w51.setCell ⟨gb197, 0, none⟩ (.string t191)).setCell ⟨gb197, 1, none⟩ (.int .i64 t192)).setCell ⟨gb197, 2, none⟩ (.int .u32 t193)).setCell ⟨gb197, 3, none⟩ (.int .u8 t194)).setCell ⟨gb197, 4, none⟩ (.int .i64 t195)) = w55 at n0_ n1_ n2_ ⊢
          have BK188 := n0_
          have BK197 := n1_
          have HB := n2_
          clear n0_ n1_ n2_
          have n0_ := Aside0.mk (blk_drew BK188.out)
          have n1_ := Aside0.mk (blk_drew BK197.out)
          have n2_ := Aside0.mk (below_drew1 HB.out)
          clear BK188
          clear BK197
          clear HB
          have BK188 := n0_
          have BK197 := n1_
          have HB := n2_
          clear n0_ n1_ n2_
          refine start_ (n := 21) (S := fun w' => w'.cell? ⟨gb197, 0, none⟩ = some (.string t191) ∧ w'.cell? ⟨gb197, 1, none⟩ = some (.int .i64 t192) ∧ w'.cell? ⟨gb197, 2, none⟩ = some (.int .u32 t193) ∧ w'.cell? ⟨gb197, 3, none⟩ = some (.int .u8 t194) ∧ w'.cell? ⟨gb197, 4, none⟩ = some (.int .i64 t195) ∧ w'.cell? ⟨gb188, 0, none⟩ = some (.int .i64 a1_0) ∧ w'.cell? ⟨gb188, 1, none⟩ = some (.int .i64 a1_1) ∧ w'.cell? ⟨gb188, 2, none⟩ = some (.int .i64 a1_2)) (ds := []) #[false, false, false, false, false, false, false, false, false, false, false, false, false, false, false, false, false, false, false, false, false] (by kernel_rfl) rfl rfl ⟨(blk_cell BK197.out 0).trans rfl, (blk_cell BK197.out 1).trans rfl, (blk_cell BK197.out 2).trans rfl, (blk_cell BK197.out 3).trans rfl, (blk_cell BK197.out 4).trans rfl, (blk_cell BK188.out 0).trans rfl, (blk_cell BK188.out 1).trans rfl, (blk_cell BK188.out 2).trans rfl⟩ (fun hHeld => ?_); refine with_tabW gambrelref15_Shard.tab6 gambrelref15_Shard.bits6 (fun HT_ HW_ => ?_)
          generalize w55.drew = w56 at BK188 BK197 HB hHeld ⊢
          refine pure_ (i := 0) (N := some 55) (v := ?_) (a' := ?_) #[true, false, false, false, false, false, false, false, false, false, false, false, false, false, false, false, false, false, false, false, false] rfl rfl (any_of HT_.out (by kernel_rfl)) (fun _ _ _ h => h) (Or.inl ⟨by rfl, ?_⟩) ?_ ?_
          rotate_left
          ·intro w'
           go_simp
           with_reducible rfl
          rotate_left
          ·simp only [Act.put, List.setIfInBounds_toArray, List.set_cons_zero, List.set_cons_succ, i64_w, i32_w]
           rfl
          refine pure_ (i := 1) (N := some 56) (v := ?_) (a' := ?_) #[true, true, false, false, false, false, false, false, false, false, false, false, false, false, false, false, false, false, false, false, false] rfl rfl (any_of HT_.out (by kernel_rfl)) (fun _ _ _ h => h) (Or.inl ⟨by rfl, ?_⟩) ?_ ?_
          rotate_left
          ·intro w'
           go_simp
           with_reducible rfl
          rotate_left
          ·simp only [Act.put, List.setIfInBounds_toArray, List.set_cons_zero, List.set_cons_succ, i64_w, i32_w]
           rfl
          refine pure_ (i := 2) (N := some 57) (v := ?_) (a' := ?_) #[true, true, true, false, false, false, false, false, false, false, false, false, false, false, false, false, false, false, false, false, false] rfl rfl (any_of HT_.out (by kernel_rfl)) (fun _ _ _ h => h) (Or.inl ⟨by rfl, ?_⟩) ?_ ?_
          rotate_left
          ·intro w'
           go_simp
           with_reducible rfl
          rotate_left
          ·simp only [Act.put, List.setIfInBounds_toArray, List.set_cons_zero, List.set_cons_succ, i64_w, i32_w]
           rfl
          refine pure_ (i := 5) (N := some 60) (v := ?_) (a' := ?_) #[true, true, true, false, false, true, false, false, false, false, false, false, false, false, false, false, false, false, false, false, false] rfl rfl (any_of HT_.out (by kernel_rfl)) (fun _ _ _ h => h) (Or.inl ⟨by rfl, ?_⟩) ?_ ?_
          rotate_left
          ·intro w'
           go_simp
           with_reducible rfl
          rotate_left
          ·simp only [Act.put, List.setIfInBounds_toArray, List.set_cons_zero, List.set_cons_succ, i64_w, i32_w]
           rfl
          refine pure_ (i := 9) (N := some 64) (v := ?_) (a' := ?_) #[true, true, true, false, false, true, false, false, false, true, false, false, false, false, false, false, false, false, false, false, false] rfl rfl (any_of HT_.out (by kernel_rfl)) (fun _ _ _ h => h) (Or.inl ⟨by rfl, ?_⟩) ?_ ?_
          rotate_left
          ·intro w'
           go_simp
           with_reducible rfl
          rotate_left
          ·simp only [Act.put, List.setIfInBounds_toArray, List.set_cons_zero, List.set_cons_succ, i64_w, i32_w]
           rfl
          refine pure_ (i := 13) (N := some 68) (v := ?_) (a' := ?_) #[true, true, true, false, false, true, false, false, false, true, false, false, false, true, false, false, false, false, false, false, false] rfl rfl (any_of HT_.out (by kernel_rfl)) (fun _ _ _ h => h) (Or.inl ⟨by rfl, ?_⟩) ?_ ?_
          rotate_left
          ·intro w'
           go_simp
           with_reducible rfl
          rotate_left
          ·simp only [Act.put, List.setIfInBounds_toArray, List.set_cons_zero, List.set_cons_succ, i64_w, i32_w]
           rfl
          refine pure_ (i := 14) (N := some 69) (v := ?_) (a' := ?_) #[true, true, true, false, false, true, false, false, false, true, false, false, false, true, true, false, false, false, false, false, false] rfl rfl (any_of HT_.out (by kernel_rfl)) (fun _ _ _ h => h) (Or.inl ⟨by rfl, ?_⟩) ?_ ?_
          rotate_left
          ·intro w'
           go_simp
           with_reducible rfl
          rotate_left
          ·simp only [Act.put, List.setIfInBounds_toArray, List.set_cons_zero, List.set_cons_succ, i64_w, i32_w]
           rfl
          refine take_ (i := 3) (N := some 58) (v := ?_) (a' := ?_) #[true, true, true, true, false, true, false, false, false, true, false, false, false, true, true, false, false, false, false, false, false] rfl rfl (take_ofW HT_.out HW_.out (by kernel_rfl)) (fun _ _ _ h => h) (Or.inl ⟨by rfl, ?_⟩) hHeld ?_ ?_
          rotate_left
          ·rintro w' ⟨s0, s1, s2, s3, s4, s5, s6, s7⟩
           go_simp
           with_reducible rfl
          rotate_left
          ·simp only [Act.put, List.setIfInBounds_toArray, List.set_cons_zero, List.set_cons_succ, i64_w, i32_w]
           rfl
          refine pure_ (i := 4) (N := some 59) (v := ?_) (a' := ?_) #[true, true, true, true, true, true, false, false, false, true, false, false, false, true, true, false, false, false, false, false, false] rfl rfl (any_of HT_.out (by kernel_rfl)) (fun _ _ _ h => h) (Or.inl ⟨by rfl, ?_⟩) ?_ ?_
          rotate_left
          ·intro w'
           go_simp
           with_reducible rfl
          rotate_left
          ·simp only [Act.put, List.setIfInBounds_toArray, List.set_cons_zero, List.set_cons_succ, i64_w, i32_w]
           rfl
          refine take_ (i := 6) (N := some 61) (v := ?_) (a' := ?_) #[true, true, true, true, true, true, true, false, false, true, false, false, false, true, true, false, false, false, false, false, false] rfl rfl (take_ofW HT_.out HW_.out (by kernel_rfl)) (fun _ _ _ h => h) (Or.inl ⟨by rfl, ?_⟩) hHeld ?_ ?_
          rotate_left
          ·rintro w' ⟨s0, s1, s2, s3, s4, s5, s6, s7⟩
           go_simp
           with_reducible rfl
          rotate_left
          ·simp only [Act.put, List.setIfInBounds_toArray, List.set_cons_zero, List.set_cons_succ, i64_w, i32_w]
           rfl
          refine take_ (i := 10) (N := some 65) (v := ?_) (a' := ?_) #[true, true, true, true, true, true, true, false, false, true, true, false, false, true, true, false, false, false, false, false, false] rfl rfl (take_ofW HT_.out HW_.out (by kernel_rfl)) (fun _ _ _ h => h) (Or.inl ⟨by rfl, ?_⟩) hHeld ?_ ?_
          rotate_left
          ·rintro w' ⟨s0, s1, s2, s3, s4, s5, s6, s7⟩
           go_simp
           with_reducible rfl
          rotate_left
          ·simp only [Act.put, List.setIfInBounds_toArray, List.set_cons_zero, List.set_cons_succ, i64_w, i32_w]
           rfl
          refine take_ (i := 15) (N := some 70) (v := ?_) (a' := ?_) #[true, true, true, true, true, true, true, false, false, true, true, false, false, true, true, true, false, false, false, false, false] rfl rfl (take_ofW HT_.out HW_.out (by kernel_rfl)) (fun _ _ _ h => h) (Or.inl ⟨by rfl, ?_⟩) hHeld ?_ ?_
          rotate_left
          ·rintro w' ⟨s0, s1, s2, s3, s4, s5, s6, s7⟩
           go_simp
           with_reducible rfl
          rotate_left
          ·simp only [Act.put, List.setIfInBounds_toArray, List.set_cons_zero, List.set_cons_succ, i64_w, i32_w]
           rfl
          refine pure_ (i := 16) (N := some 71) (v := ?_) (a' := ?_) #[true, true, true, true, true, true, true, false, false, true, true, false, false, true, true, true, true, false, false, false, false] rfl rfl (any_of HT_.out (by kernel_rfl)) (fun _ _ _ h => h) (Or.inl ⟨by rfl, ?_⟩) ?_ ?_
          rotate_left
          ·intro w'
           go_simp
           with_reducible rfl
          rotate_left
          ·simp only [Act.put, List.setIfInBounds_toArray, List.set_cons_zero, List.set_cons_succ, i64_w, i32_w]
           rfl
          refine one_ (i := 7) (N := some 62) #[true, true, true, true, true, true, true, true, false, true, true, false, false, true, true, true, true, false, false, false, false] rfl rfl (one_of HT_.out (by kernel_rfl)) (by decide) (fun K hK => ?_)
          refine goes_ Tryd.func31 (by kernel_rfl) rfl #[.int .i64 a1_1] (by rfl) rfl rfl (by (try simp only [List.map_toArray, List.map_cons, List.map_nil]); first | done | rfl | (simp only [List.length_drop, List.length_take]; rfl)) ?_
          with_reducible refine (gambrelref15_figure.calls a1_1 t203 _ A43.out).mono ?_
          rintro e w57 ⟨rfl, hb⟩
          refine ⟨_, rfl, ?_⟩
          have n0_ := Aside0.mk (blk_below (g := gb188) (o := .cells #[.int .i64 a1_0, .int .i64 a1_1, .int .i64 a1_2] 23 (0, 0)) (by (with_reducible repeat (first | refine blk_drewN ?_ _ | refine blk_drew ?_ | refine blk_alloc ?_ _)); exact BK188.out) hb)
          have n1_ := Aside0.mk (blk_below (g := gb197) (o := .cells #[.string t191, .int .i64 t192, .int .u32 t193, .int .u8 t194, .int .i64 t195] 60 (0, 0)) (by (with_reducible repeat (first | refine blk_drewN ?_ _ | refine blk_drew ?_ | refine blk_alloc ?_ _)); exact BK197.out) hb)
          have n2_ := Aside0.mk (below_step (by repeat (first | (with_reducible first | exact HB.out | apply below_alloc | apply pw_below_drewN | apply below_drew1 | refine below_set ?_ GE188.out | refine below_set ?_ GE197.out) | exact HB.out)) hb)
          clear BK188
          clear BK197
          clear HB
          have BK188 := n0_
          have BK197 := n1_
          have HB := n2_
          clear n0_ n1_ n2_
          (try clear hb)
          (try clear hb2)
          (try clear hk)
          (try clear hi)
          refine hK.out _ _ ⟨(blk_cell BK197.out 0).trans rfl, (blk_cell BK197.out 1).trans rfl, (blk_cell BK197.out 2).trans rfl, (blk_cell BK197.out 3).trans rfl, (blk_cell BK197.out 4).trans rfl, (blk_cell BK188.out 0).trans rfl, (blk_cell BK188.out 1).trans rfl, (blk_cell BK188.out 2).trans rfl⟩ (fun hHeld => ?_)
          clear hK K
          refine norm_ (a' := ?_) ?_ ?_
          rotate_left
          ·show Act.put _ (some 62) _ = _
           simp only [Act.put, List.setIfInBounds_toArray, List.set_cons_zero, List.set_cons_succ, i64_w, i32_w]
           rfl
          refine pure_ (i := 8) (N := some 63) (v := ?_) (a' := ?_) #[true, true, true, true, true, true, true, true, true, true, true, false, false, true, true, true, true, false, false, false, false] rfl rfl (any_of HT_.out (by kernel_rfl)) (fun _ _ _ h => h) (Or.inl ⟨by rfl, ?_⟩) ?_ ?_
          rotate_left
          ·intro w'
           go_simp
           with_reducible rfl
          rotate_left
          ·simp only [Act.put, List.setIfInBounds_toArray, List.set_cons_zero, List.set_cons_succ, i64_w, i32_w]
           rfl
          refine one_ (i := 11) (N := some 66) #[true, true, true, true, true, true, true, true, true, true, true, true, false, true, true, true, true, false, false, false, false] rfl rfl (one_of HT_.out (by kernel_rfl)) (by decide) (fun K hK => ?_)
          refine goes_ Tryd.func31 (by kernel_rfl) rfl #[.int .i64 a1_2] (by rfl) rfl rfl (by (try simp only [List.map_toArray, List.map_cons, List.map_nil]); first | done | rfl | (simp only [List.length_drop, List.length_take]; rfl)) ?_
          with_reducible refine (gambrelref15_figure.calls a1_2 t204 _ A45.out).mono ?_
          rintro e w58 ⟨rfl, hb⟩
          refine ⟨_, rfl, ?_⟩
          have n0_ := Aside0.mk (blk_below (g := gb188) (o := .cells #[.int .i64 a1_0, .int .i64 a1_1, .int .i64 a1_2] 23 (0, 0)) (by (with_reducible repeat (first | refine blk_drewN ?_ _ | refine blk_drew ?_ | refine blk_alloc ?_ _)); exact BK188.out) hb)
          have n1_ := Aside0.mk (blk_below (g := gb197) (o := .cells #[.string t191, .int .i64 t192, .int .u32 t193, .int .u8 t194, .int .i64 t195] 60 (0, 0)) (by (with_reducible repeat (first | refine blk_drewN ?_ _ | refine blk_drew ?_ | refine blk_alloc ?_ _)); exact BK197.out) hb)
          have n2_ := Aside0.mk (below_step (by repeat (first | (with_reducible first | exact HB.out | apply below_alloc | apply pw_below_drewN | apply below_drew1 | refine below_set ?_ GE188.out | refine below_set ?_ GE197.out) | exact HB.out)) hb)
          clear BK188
          clear BK197
          clear HB
          have BK188 := n0_
          have BK197 := n1_
          have HB := n2_
          clear n0_ n1_ n2_
          (try clear hb)
          (try clear hb2)
          (try clear hk)
          (try clear hi)
          refine hK.out _ _ ⟨(blk_cell BK197.out 0).trans rfl, (blk_cell BK197.out 1).trans rfl, (blk_cell BK197.out 2).trans rfl, (blk_cell BK197.out 3).trans rfl, (blk_cell BK197.out 4).trans rfl, (blk_cell BK188.out 0).trans rfl, (blk_cell BK188.out 1).trans rfl, (blk_cell BK188.out 2).trans rfl⟩ (fun hHeld => ?_)
          clear hK K
          refine norm_ (a' := ?_) ?_ ?_
          rotate_left
          ·show Act.put _ (some 66) _ = _
           simp only [Act.put, List.setIfInBounds_toArray, List.set_cons_zero, List.set_cons_succ, i64_w, i32_w]
           rfl
          refine pure_ (i := 12) (N := some 67) (v := ?_) (a' := ?_) #[true, true, true, true, true, true, true, true, true, true, true, true, true, true, true, true, true, false, false, false, false] rfl rfl (any_of HT_.out (by kernel_rfl)) (fun _ _ _ h => h) (Or.inl ⟨by rfl, ?_⟩) ?_ ?_
          rotate_left
          ·intro w'
           go_simp
           with_reducible rfl
          rotate_left
          ·simp only [Act.put, List.setIfInBounds_toArray, List.set_cons_zero, List.set_cons_succ, i64_w, i32_w]
           rfl
          refine one_ (i := 17) (N := some 72) #[true, true, true, true, true, true, true, true, true, true, true, true, true, true, true, true, true, true, false, false, false] rfl rfl (one_of HT_.out (by kernel_rfl)) (by decide) (fun K hK => ?_)
          refine goes_ Tryd.func31 (by kernel_rfl) rfl #[.int .i64 (wrap64 (a2 - a1_1))] (by rfl) rfl rfl (by (try simp only [List.map_toArray, List.map_cons, List.map_nil]); first | done | rfl | (simp only [List.length_drop, List.length_take]; rfl)) ?_
          with_reducible refine (gambrelref15_figure.calls (wrap64 (a2 - a1_1)) t205 _ A47.out).mono ?_
          rintro e w59 ⟨rfl, hb⟩
          refine ⟨_, rfl, ?_⟩
          have n0_ := Aside0.mk (blk_below (g := gb188) (o := .cells #[.int .i64 a1_0, .int .i64 a1_1, .int .i64 a1_2] 23 (0, 0)) (by (with_reducible repeat (first | refine blk_drewN ?_ _ | refine blk_drew ?_ | refine blk_alloc ?_ _)); exact BK188.out) hb)
          have n1_ := Aside0.mk (blk_below (g := gb197) (o := .cells #[.string t191, .int .i64 t192, .int .u32 t193, .int .u8 t194, .int .i64 t195] 60 (0, 0)) (by (with_reducible repeat (first | refine blk_drewN ?_ _ | refine blk_drew ?_ | refine blk_alloc ?_ _)); exact BK197.out) hb)
          have n2_ := Aside0.mk (below_step (by repeat (first | (with_reducible first | exact HB.out | apply below_alloc | apply pw_below_drewN | apply below_drew1 | refine below_set ?_ GE188.out | refine below_set ?_ GE197.out) | exact HB.out)) hb)
          clear BK188
          clear BK197
          clear HB
          have BK188 := n0_
          have BK197 := n1_
          have HB := n2_
          clear n0_ n1_ n2_
          (try clear hb)
          (try clear hb2)
          (try clear hk)
          (try clear hi)
          refine hK.out _ _ ⟨(blk_cell BK197.out 0).trans rfl, (blk_cell BK197.out 1).trans rfl, (blk_cell BK197.out 2).trans rfl, (blk_cell BK197.out 3).trans rfl, (blk_cell BK197.out 4).trans rfl, (blk_cell BK188.out 0).trans rfl, (blk_cell BK188.out 1).trans rfl, (blk_cell BK188.out 2).trans rfl⟩ (fun hHeld => ?_)
          clear hK K
          refine norm_ (a' := ?_) ?_ ?_
          rotate_left
          ·show Act.put _ (some 72) _ = _
           simp only [Act.put, List.setIfInBounds_toArray, List.set_cons_zero, List.set_cons_succ, i64_w, i32_w]
           rfl
          refine pure_ (i := 18) (N := some 73) (v := ?_) (a' := ?_) #[true, true, true, true, true, true, true, true, true, true, true, true, true, true, true, true, true, true, true, false, false] rfl rfl (any_of HT_.out (by kernel_rfl)) (fun _ _ _ h => h) (Or.inl ⟨by rfl, ?_⟩) ?_ ?_
          rotate_left
          ·intro w'
           go_simp
           with_reducible rfl
          rotate_left
          ·simp only [Act.put, List.setIfInBounds_toArray, List.set_cons_zero, List.set_cons_succ, i64_w, i32_w]
           rfl
          refine pure_ (i := 19) (N := some 6) (v := ?_) (a' := ?_) #[true, true, true, true, true, true, true, true, true, true, true, true, true, true, true, true, true, true, true, true, false] rfl rfl (any_of HT_.out (by kernel_rfl)) (fun _ _ _ h => h) (Or.inl ⟨by rfl, ?_⟩) ?_ ?_
          rotate_left
          ·intro w'
           go_simp
           with_reducible rfl
          rotate_left
          ·simp only [Act.put, List.setIfInBounds_toArray, List.set_cons_zero, List.set_cons_succ, i64_w, i32_w]
           rfl
          refine pure_ (i := 20) (N := some 7) (v := ?_) (a' := ?_) #[true, true, true, true, true, true, true, true, true, true, true, true, true, true, true, true, true, true, true, true, true] rfl rfl (any_of HT_.out (by kernel_rfl)) (fun _ _ _ h => h) (Or.inl ⟨by rfl, ?_⟩) ?_ ?_
          rotate_left
          ·intro w'
           go_simp
           with_reducible rfl
          rotate_left
          ·simp only [Act.put, List.setIfInBounds_toArray, List.set_cons_zero, List.set_cons_succ, i64_w, i32_w]
           rfl
          refine done_ (done_of HT_.out (by kernel_rfl)) ?_
          try go_wp2
          go_ret2
          exact ⟨by first | rfl | (simp [errW_none, errW_some] <;> rfl) | (simp [*, errW_none, errW_some] <;> rfl), by repeat (first | (with_reducible first | exact HB.out | apply below_alloc | apply pw_below_drewN | apply below_drew1 | refine below_set ?_ GE188.out | refine below_set ?_ GE197.out) | exact HB.out)⟩
         ·rw [if_neg c48] at H
          exact absurd H (by simp)
        ·rw [if_neg c46] at H
         exact absurd H (by simp)
       ·rw [if_neg c44] at H
        exact absurd H (by simp)
      ·rw [if_neg c42] at H
       exact absurd H (by simp)
     ·rw [if_neg c41] at H
      exact absurd H (by simp)

end Go.Proofs.YtlapjnaaihpeeaaDoor.XPl
