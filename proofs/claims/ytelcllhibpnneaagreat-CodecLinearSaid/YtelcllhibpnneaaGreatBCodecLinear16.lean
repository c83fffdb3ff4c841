-- Joined by this work's own program (wip/tools/bundle.py) out of its texts: what this claim uses of them. Not trusted: Lean checks it.
import Derived.Test.YtelcllhibpnneaaGreatBCodecLinear15
section
namespace Go.Proofs.YtelcllhibpnneaaGreat.XCo
open Go.RowKit Go.Proofs.YtelcllhibpnneaaGreatW.PrintWords Go.Proofs.YtelcllhibpnneaaGreatW.PrintLast Go.Proofs.YtelcllhibpnneaaGreatW.PrintMore
attribute [local go_sem] max2_int min2_int max_two min_two max_three min_three max_four min_four
set_option linter.unusedVariables false
set_option linter.unusedSimpArgs false
mutual
def gambrellaw11_CodecLinear.l0 : Nat → List Int → List Int → Bool → Int → List (List Int) → List (List Int) → List (List Int) → Int → Int → Int → Int → Option (Bool)
 | 0, _, _, _, _, _, _, _, _, _, _, _ => none
 | k + 1, x1, x2, x7, x9, x10, x11, x12, x13, x624000, x624001, x624002 => if x13 < x624001 then (if 0 ≤ (wrap64 (x13 * x9)) then (if (wrap64 (x13 * x9)) ≤ (wrap64 ((wrap64 (x13 + 1)) * x9)) then (if (wrap64 ((wrap64 (x13 + 1)) * x9)) ≤ (x1.length : Int) then (if x10.length < 5864062014805 then (if (wrap64 ((wrap64 (x13 + 1)) * x9)) ≤ (x2.length : Int) then (if x11.length < 5864062014805 then (gambrellaw11_CodecLinear.l1 k x1 x2 x7 x9 (x10 ++ [((x1.take ((wrap64 ((wrap64 (x13 + 1)) * x9)) : Int).toNat).drop ((wrap64 (x13 * x9)) : Int).toNat)]) (x11 ++ [((x2.take ((wrap64 ((wrap64 (x13 + 1)) * x9)) : Int).toNat).drop ((wrap64 (x13 * x9)) : Int).toNat)]) x12 x13 ([] : List Int) 0 x624000 x624001 x624002) else (none)) else (none)) else (none)) else (none)) else (none)) else (none)) else ((codec_Parity.f k x624000 x624001 x624002 x10).bind fun bt648 => ((codec_Parity.f k x624000 x624001 x624002 x11).bind fun bt652 => ((codec_Parity.f k x624000 x624001 x624002 x12).bind fun bt656 => (if (wrap64 ((wrap64 (bt648.2 + bt652.2)) + bt656.2)) = 0 then (if (bt648.1.length : Int) = x624002 then (if (bt652.1.length : Int) = x624002 then (gambrellaw11_CodecLinear.j2 k x7 x9 bt648.1 bt652.1 bt656.1 ((bt656.1.length : Int) != x624002) x624000 x624001 x624002) else (gambrellaw11_CodecLinear.j2 k x7 x9 bt648.1 bt652.1 bt656.1 true x624000 x624001 x624002)) else (gambrellaw11_CodecLinear.j2 k x7 x9 bt648.1 bt652.1 bt656.1 true x624000 x624001 x624002)) else (gambrellaw11_CodecLinear.j2 k x7 x9 bt648.1 bt652.1 bt656.1 true x624000 x624001 x624002)))))
def gambrellaw11_CodecLinear.l1 : Nat → List Int → List Int → Bool → Int → List (List Int) → List (List Int) → List (List Int) → Int → List Int → Int → Int → Int → Int → Option (Bool)
 | 0, _, _, _, _, _, _, _, _, _, _, _, _, _ => none
 | k + 1, x1, x2, x7, x9, x10, x11, x12, x13, x14, x15, x624000, x624001, x624002 => if x15 < x9 then (if 0 ≤ (wrap64 ((wrap64 (x13 * x9)) + x15)) then (if (wrap64 ((wrap64 (x13 * x9)) + x15)) < (x1.length : Int) then (if (wrap64 ((wrap64 (x13 * x9)) + x15)) < (x2.length : Int) then (if x14.length < 140737488355328 then (gambrellaw11_CodecLinear.l1 k x1 x2 x7 x9 x10 x11 x12 x13 (x14 ++ [Go.bits .xor .u8 (rd x1 (wrap64 ((wrap64 (x13 * x9)) + x15))) (rd x2 (wrap64 ((wrap64 (x13 * x9)) + x15)))]) (wrap64 (x15 + 1)) x624000 x624001 x624002) else (none)) else (none)) else (none)) else (none)) else (if x12.length < 5864062014805 then (gambrellaw11_CodecLinear.l0 k x1 x2 x7 x9 x10 x11 (x12 ++ [x14]) (wrap64 (x13 + 1)) x624000 x624001 x624002) else (none))
def gambrellaw11_CodecLinear.j2 : Nat → Bool → Int → List (List Int) → List (List Int) → List (List Int) → Bool → Int → Int → Int → Option (Bool)
 | 0, _, _, _, _, _, _, _, _, _ => none
 | k + 1, x7, x9, x16, x18, x20, x140, x624000, x624001, x624002 => if x140 = true then (some false) else (gambrellaw11_CodecLinear.l2 k x7 x9 x16 x18 x20 0 x624000 x624001 x624002)
def gambrellaw11_CodecLinear.l2 : Nat → Bool → Int → List (List Int) → List (List Int) → List (List Int) → Int → Int → Int → Int → Option (Bool)
 | 0, _, _, _, _, _, _, _, _, _ => none
 | k + 1, x7, x9, x16, x18, x20, x22, x624000, x624001, x624002 => if x22 < x624002 then (if 0 ≤ x22 then (if x22 < (x16.length : Int) then (if ((rd_L1 x16 x22).length : Int) = x9 then (if x22 < (x18.length : Int) then (if ((rd_L1 x18 x22).length : Int) = x9 then (if x22 < (x20.length : Int) then (gambrellaw11_CodecLinear.j4 k x7 x9 x16 x18 x20 x22 (((rd_L1 x20 x22).length : Int) != x9) x624000 x624001 x624002) else (none)) else (gambrellaw11_CodecLinear.j4 k x7 x9 x16 x18 x20 x22 true x624000 x624001 x624002)) else (none)) else (gambrellaw11_CodecLinear.j4 k x7 x9 x16 x18 x20 x22 true x624000 x624001 x624002)) else (none)) else (none)) else (some x7)
def gambrellaw11_CodecLinear.j4 : Nat → Bool → Int → List (List Int) → List (List Int) → List (List Int) → Int → Bool → Int → Int → Int → Option (Bool)
 | 0, _, _, _, _, _, _, _, _, _, _ => none
 | k + 1, x7, x9, x16, x18, x20, x22, x171, x624000, x624001, x624002 => if x171 = true then (some false) else (gambrellaw11_CodecLinear.l3 k x7 x9 x16 x18 x20 x22 0 x624000 x624001 x624002)
def gambrellaw11_CodecLinear.l3 : Nat → Bool → Int → List (List Int) → List (List Int) → List (List Int) → Int → Int → Int → Int → Int → Option (Bool)
 | 0, _, _, _, _, _, _, _, _, _, _ => none
 | k + 1, x7, x9, x16, x18, x20, x22, x23, x624000, x624001, x624002 => if x23 < x9 then (if 0 ≤ x22 then (if x22 < (x20.length : Int) then (if 0 ≤ x23 then (if x23 < ((rd_L1 x20 x22).length : Int) then (if x22 < (x16.length : Int) then (if x23 < ((rd_L1 x16 x22).length : Int) then (if x22 < (x18.length : Int) then (if x23 < ((rd_L1 x18 x22).length : Int) then (if (rd (rd_L1 x20 x22) x23) = (Go.bits .xor .u8 (rd (rd_L1 x16 x22) x23) (rd (rd_L1 x18 x22) x23)) then (gambrellaw11_CodecLinear.l3 k x7 x9 x16 x18 x20 x22 (wrap64 (x23 + 1)) x624000 x624001 x624002) else (some false)) else (none)) else (none)) else (none)) else (none)) else (none)) else (none)) else (none)) else (none)) else (gambrellaw11_CodecLinear.l2 k x7 x9 x16 x18 x20 (wrap64 (x22 + 1)) x624000 x624001 x624002)
end
def gambrellaw11_CodecLinear.f (k : Nat) (a0_0 : Int) (a0_1 : Int) (a0_2 : Int) (l1 : List Int) (l2 : List Int) : Option (Bool) := (gambrellaw11_awake.f k).bind fun t619 => ((gambrelref09_Some.f a0_0 a0_1 a0_2).bind fun bt620 => (if bt620.2.1 = 0 then (none) else (gambrellaw11_CodecLinear.l0 k l1 l2 t619 (wrap64 ((wrap64 (Int.tdiv (wrap64 ((mn (mn (l1.length : Int) (l2.length : Int)) 300) / bt620.2.1)) 2)) * 2)) ([] : List (List Int)) ([] : List (List Int)) ([] : List (List Int)) 0 bt620.1 bt620.2.1 bt620.2.2)))
def gambrellaw11_CodecLinear.T16 : Bool × List (List Nat × List Nat) := (true, [([], []), ([], []), ([], []), ([], []), ([2, 3], [2, 3]), ([], []), ([4, 5], [4, 5]), ([1, 6], [1, 6]), ([7], [7]), ([], []), ([], []), ([], []), ([10, 11], [10, 11]), ([], []), ([12, 13], [12, 13]), ([9, 14], [9, 14]), ([15], [15]), ([8, 16], [8, 16]), ([17], [17]), ([0, 18], [0, 18]), ([19, 19, 0, 1, 2, 3, 4, 5, 6, 7, 8, 9, 10, 11, 12, 13, 14, 15, 16, 17, 18, 19], [0, 19])])
def gambrellaw11_CodecLinear.B16 : List Nat := [0, 0, 0, 0, 12, 0, 60, 126, 254, 0, 0, 0, 3072, 0, 15360, 32256, 65024, 131070, 262142, 524287, 1048575]
theorem gambrellaw11_CodecLinear.tab16 : rtab .any (opsOf Tryz.f5 16) = gambrellaw11_CodecLinear.T16 := by kernel_rfl
theorem gambrellaw11_CodecLinear.bits16 : waitsOk gambrellaw11_CodecLinear.T16.2 gambrellaw11_CodecLinear.B16 = true := by kernel_rfl
def gambrellaw11_CodecLinear.T31 : Bool × List (List Nat × List Nat) := (true, [([], []), ([], []), ([0, 1], [0, 1]), ([2], [2]), ([], []), ([3, 4], [3, 4]), ([5], [5]), ([], []), ([], []), ([7, 8], [7, 8]), ([9], [9]), ([], []), ([10, 11], [10, 11]), ([12], [12]), ([], []), ([], []), ([14, 15], [14, 15]), ([16], [16]), ([], []), ([17, 18], [17, 18]), ([19], [19]), ([13, 20], [13, 20]), ([6, 21], [6, 21])])
def gambrellaw11_CodecLinear.B31 : List Nat := [0, 0, 3, 7, 0, 31, 63, 0, 0, 384, 896, 0, 3968, 8064, 0, 0, 49152, 114688, 0, 507904, 1032192, 2097024, 4194303]
theorem gambrellaw11_CodecLinear.tab31 : rtab .any (opsOf Tryz.f5 31) = gambrellaw11_CodecLinear.T31 := by kernel_rfl
theorem gambrellaw11_CodecLinear.bits31 : waitsOk gambrellaw11_CodecLinear.T31.2 gambrellaw11_CodecLinear.B31 = true := by kernel_rfl
set_option maxHeartbeats 8000000 in
set_option maxRecDepth 100000 in
theorem gambrellaw11_CodecLinear.calls (k : Nat) (a0_0 : Int) (a0_1 : Int) (a0_2 : Int) (P1_ : Nat → Prop) (A1 : Option Addr) (c1 : Nat) (l1 : List Int) (P2_ : Nat → Prop) (A2 : Option Addr) (c2 : Nat) (l2 : List Int) (r : Bool) (w : World) (hr_ : Aside0 (r = true)) (hs1 : Kd.V (Kd.int .u8) 5 w w.heap.size (fun k_ => P1_ k_) (.slice A1 l1.length c1) l1) (hs2 : Kd.V (Kd.int .u8) 5 w w.heap.size (fun k_ => P2_ k_) (.slice A2 l2.length c2) l2) (h : gambrellaw11_CodecLinear.f k a0_0 a0_1 a0_2 l1 l2 = some r) :
  Calls Tryz.prog 5 #[.agg #[.int .u8 a0_0, .int .u8 a0_1, .int .u8 a0_2], .slice A1 l1.length c1, .slice A2 l2.length c2] w fun e w' => e = .returned (.bool r) ∧ Below w.heap.size w w' := by
 have hu38 := Tryz.underlying38
 have hu23 := Tryz.underlying23
 have HO1 := Aside0.mk (show Kd.V (Kd.int .u8) 5 w w.heap.size (fun k_ => ((P1_ k_ ∨ P2_ k_) ∨ w.heap.size ≤ k_)) (.slice A1 l1.length c1) l1 from Kd.V_mono hs1 (fun k_ hk => .inl (.inl hk)))
 have HO2 := Aside0.mk (show Kd.V (Kd.int .u8) 5 w w.heap.size (fun k_ => ((P1_ k_ ∨ P2_ k_) ∨ w.heap.size ≤ k_)) (.slice A2 l2.length c2) l2 from Kd.V_mono hs2 (fun k_ hk => .inl (.inr hk)))
 have HB := Aside0.mk (Below.refl w.heap.size w)
 have H : ((gambrellaw11_awake.f k).bind fun t619 => ((gambrelref09_Some.f a0_0 a0_1 a0_2).bind fun bt620 => (if bt620.2.1 = 0 then (none) else (gambrellaw11_CodecLinear.l0 k l1 l2 t619 (wrap64 ((wrap64 (Int.tdiv (wrap64 ((mn (mn (l1.length : Int) (l2.length : Int)) 300) / bt620.2.1)) 2)) * 2)) ([] : List (List Int)) ([] : List (List Int)) ([] : List (List Int)) 0 bt620.1 bt620.2.1 bt620.2.2)))) = some r := h
 clear h
 replace H := Option.bind_eq_some_iff.mp H
 obtain ⟨t619, A40, H⟩ := H
 replace H : ((gambrelref09_Some.f a0_0 a0_1 a0_2).bind fun bt620 => (if bt620.2.1 = 0 then (none) else (gambrellaw11_CodecLinear.l0 k l1 l2 t619 (wrap64 ((wrap64 (Int.tdiv (wrap64 ((mn (mn (l1.length : Int) (l2.length : Int)) 300) / bt620.2.1)) 2)) * 2)) ([] : List (List Int)) ([] : List (List Int)) ([] : List (List Int)) 0 bt620.1 bt620.2.1 bt620.2.2))) = some r := H
 have A4 := Aside0.mk A40
 clear A40
 replace H := Option.bind_eq_some_iff.mp H
 obtain ⟨⟨t620, t621, t622⟩, A50, H⟩ := H
 replace H : (if t621 = 0 then (none) else (gambrellaw11_CodecLinear.l0 k l1 l2 t619 (wrap64 ((wrap64 (Int.tdiv (wrap64 ((mn (mn (l1.length : Int) (l2.length : Int)) 300) / t621)) 2)) * 2)) ([] : List (List Int)) ([] : List (List Int)) ([] : List (List Int)) 0 t620 t621 t622)) = some r := H
 have A5 := Aside0.mk A50
 clear A50
 obtain ⟨ji6, hji6⟩ : ∃ j_ : Int, (mn (l1.length : Int) (l2.length : Int)) = j_ := ⟨_, rfl⟩
 replace H : (if t621 = 0 then (none) else (gambrellaw11_CodecLinear.l0 k l1 l2 t619 (wrap64 ((wrap64 (Int.tdiv (wrap64 ((mn (ji6) 300) / t621)) 2)) * 2)) ([] : List (List Int)) ([] : List (List Int)) ([] : List (List Int)) 0 t620 t621 t622)) = some r := by first | (rw [hji6] at H; exact H) | (simp only [hji6] at H ⊢; exact H)
 (try rw [hji6] at A4)
 (try rw [hji6] at A5)
 (try (have hji6l : 0 ≤ ji6 := by (rw [← hji6]; unfold mn; (repeat' split) <;> omega)))
 (try (have hji6m : 0 ≤ ji6 := by omega))
 have hji6_ : (if (l2.length : Int) < (l1.length : Int) then (l2.length : Int) else (l1.length : Int)) = ji6 := hji6
 (try (have hji6__ := hji6_; simp only [Int.ofNat_lt] at hji6__))
 obtain ⟨ji7, hji7⟩ : ∃ j_ : Int, (mn (ji6) 300) = j_ := ⟨_, rfl⟩
 replace H : (if t621 = 0 then (none) else (gambrellaw11_CodecLinear.l0 k l1 l2 t619 (wrap64 ((wrap64 (Int.tdiv (wrap64 ((ji7) / t621)) 2)) * 2)) ([] : List (List Int)) ([] : List (List Int)) ([] : List (List Int)) 0 t620 t621 t622)) = some r := by first | (rw [hji7] at H; exact H) | (simp only [hji7] at H ⊢; exact H)
 (try rw [hji7] at A4)
 (try rw [hji7] at A5)
 have hji7_ : (if 300 < (ji6) then 300 else (ji6)) = ji7 := hji7
 by_cases c8 : t621 = 0
 ·rw [if_pos c8] at H
  exact absurd H (by simp)
 ·rw [if_neg c8] at H
  have c8b0 : (t621 == 0) = false := beq_eq_false_iff_ne.mpr c8
  have c8b1 : (t621 != 0) = true := bne_iff_ne.mpr c8
  have hj0_ : 0 ≤ ji7 := by (rw [← hji7_]; split <;> omega)
  have hjt_ : Int.tdiv ji7 t621 = ji7 / t621 := Int.tdiv_eq_ediv_of_nonneg hj0_
  have H' := Aside0.mk H
  clear H
  go_enter Tryz.func5, Tryz.ntmps5
  go_wp2_with (first | ((with_reducible refine gate_dst (N := 3) rfl ?_); (try (refine gate_guard (by rfl) ?_; dsimp only)); refine box_event ?hg (N := 3) ?hd (cs := #[.int .u8 a0_0, .int .u8 a0_1, .int .u8 a0_2]) (t := 38) ?hr ?_; (case hd => rfl); (case hg => rfl); (case hr => first | (go_simp; done) | (go_simp; rfl)); intro gb618 hg w9 hbox hb; have n0_ := Aside0.mk (Kd.V_below (Kd.V_elderB (by (with_reducible repeat (first | apply Kd.V_alloc | apply Kd.V_drewN | apply Kd.V_drew)); exact HO1.out) gb618 (Nat.le_of_eq hg.symm)) hb); have n1_ := Aside0.mk (Kd.V_below (Kd.V_elderB (by (with_reducible repeat (first | apply Kd.V_alloc | apply Kd.V_drewN | apply Kd.V_drew)); exact HO2.out) gb618 (Nat.le_of_eq hg.symm)) hb); have n2_ := Aside0.mk (below_step bl_ hb); have n3_ := Aside0.mk (hbox); have n4_ := Aside0.mk ((gs_ : w.heap.size ≤ gb618)); have n5_ := Aside0.mk ((gs_ : w.heap.size ≤ gb618)); clear HO1; clear HO2; clear HB; have HO1 := n0_; have HO2 := n1_; have HB := n2_; have BK618 := n3_; have GW618 := n4_; have GE618 := n5_; clear n0_ n1_ n2_ n3_ n4_ n5_; clear hb hbox hg) | ((with_reducible refine gate_callee (f := 15) rfl ?_); refine goesL_ (some 24) rfl rfl Tryz.func15 kr_ rfl #[] rfl ar_ ?_; (with_reducible refine (gambrellaw11_awake.calls k  t619 _ A4.out).mono ?_); rintro e w10 ⟨rfl, hb⟩; refine ⟨_, rfl, ?_⟩; have n0_ := Aside0.mk (Kd.V_below (by (with_reducible repeat (first | apply Kd.V_alloc | apply Kd.V_drewN | apply Kd.V_drew)); exact HO1.out) hb); have n1_ := Aside0.mk (Kd.V_below (by (with_reducible repeat (first | apply Kd.V_alloc | apply Kd.V_drewN | apply Kd.V_drew)); exact HO2.out) hb); have n2_ := Aside0.mk (blk_below (g := gb618) (o := .cells #[.int .u8 a0_0, .int .u8 a0_1, .int .u8 a0_2] 38 (0, 0)) bk_ hb); have n3_ := Aside0.mk (below_step bl_ hb); clear HO1; clear HO2; clear BK618; clear HB; have HO1 := n0_; have HO2 := n1_; have BK618 := n2_; have HB := n3_; clear n0_ n1_ n2_ n3_; (try clear hb); (try clear hb2); (try clear hk); (try clear hi); have hcz11_0 : w10.cell? ⟨gb618, 0, none⟩ = some (.int .u8 a0_0) := (blk_cell BK618.out 0).trans rfl; have hcz11_1 : w10.cell? ⟨gb618, 1, none⟩ = some (.int .u8 a0_1) := (blk_cell BK618.out 1).trans rfl; have hcz11_2 : w10.cell? ⟨gb618, 2, none⟩ = some (.int .u8 a0_2) := (blk_cell BK618.out 2).trans rfl; have hfz11_0 := blk_frozen BK618.out 0; have hfz11_1 := blk_frozen BK618.out 1; have hfz11_2 := blk_frozen BK618.out 2) | ((with_reducible refine gate_callee (f := 24) rfl ?_); refine goesL_ (some 26) rfl rfl Tryz.func24 kr_ rfl #[.agg #[.int .u8 a0_0, .int .u8 a0_1, .int .u8 a0_2]] rfl ar_ ?_; (with_reducible refine (gambrelref09_Some.calls a0_0 a0_1 a0_2 t620 t621 t622 _ A5.out).mono ?_); rintro e w12 ⟨rfl, hb⟩; refine ⟨_, rfl, ?_⟩; have n0_ := Aside0.mk (Kd.V_below (by (with_reducible repeat (first | apply Kd.V_alloc | apply Kd.V_drewN | apply Kd.V_drew)); exact HO1.out) hb); have n1_ := Aside0.mk (Kd.V_below (by (with_reducible repeat (first | apply Kd.V_alloc | apply Kd.V_drewN | apply Kd.V_drew)); exact HO2.out) hb); have n2_ := Aside0.mk (blk_below (g := gb618) (o := .cells #[.int .u8 a0_0, .int .u8 a0_1, .int .u8 a0_2] 38 (0, 0)) bk_ hb); have n3_ := Aside0.mk (below_step bl_ hb); clear HO1; clear HO2; clear BK618; clear HB; have HO1 := n0_; have HO2 := n1_; have BK618 := n2_; have HB := n3_; clear n0_ n1_ n2_ n3_; (try clear hb); (try clear hb2); (try clear hk); (try clear hi)) | ((with_reducible refine gate_dst (N := 8) rfl ?_); (try (refine gate_guard (by rfl) ?_; dsimp only)); refine box_event ?hg (N := 8) ?hd (cs := #[.int .i64 0, .int .i64 0, .int .i64 0]) (t := 23) ?hr ?_; (case hd => rfl); (case hg => rfl); (case hr => first | (go_simp; done) | (go_simp; rfl)); intro gb623 hg w13 hbox hb; have n0_ := Aside0.mk (Kd.V_below (Kd.V_elderB (by (with_reducible repeat (first | apply Kd.V_alloc | apply Kd.V_drewN | apply Kd.V_drew)); exact HO1.out) gb623 (Nat.le_of_eq hg.symm)) hb); have n1_ := Aside0.mk (Kd.V_below (Kd.V_elderB (by (with_reducible repeat (first | apply Kd.V_alloc | apply Kd.V_drewN | apply Kd.V_drew)); exact HO2.out) gb623 (Nat.le_of_eq hg.symm)) hb); have n2_ := Aside0.mk (blk_below (g := gb618) (o := .cells #[.int .u8 a0_0, .int .u8 a0_1, .int .u8 a0_2] 38 (0, 0)) bk_ hb); have n3_ := Aside0.mk (below_step bl_ hb); have n4_ := Aside0.mk (hbox); have n5_ := Aside0.mk ((gs_ : w.heap.size ≤ gb623)); have n6_ := Aside0.mk ((gs_ : w.heap.size ≤ gb623)); have n7_ := Aside0.mk ((by rw [hg]; exact Nat.ne_of_lt (blk_lt (g := gb618) (o := .cells #[.int .u8 a0_0, .int .u8 a0_1, .int .u8 a0_2] 38 (0, 0)) bk_) : gb618 ≠ gb623)); have n8_ := Aside0.mk ((by rw [hg]; exact Nat.ne_of_gt (blk_lt (g := gb618) (o := .cells #[.int .u8 a0_0, .int .u8 a0_1, .int .u8 a0_2] 38 (0, 0)) bk_) : gb623 ≠ gb618)); clear HO1; clear HO2; clear BK618; clear HB; have HO1 := n0_; have HO2 := n1_; have BK618 := n2_; have HB := n3_; have BK623 := n4_; have GW623 := n5_; have GE623 := n6_; have NB618_623 := n7_; have NB623_618 := n8_; clear n0_ n1_ n2_ n3_ n4_ n5_ n6_ n7_ n8_; clear hb hbox hg; have hnb14 := NB623_618.out; have hnc14 := NB618_623.out; have hcz15_0 : w13.cell? ⟨gb623, 0, none⟩ = some (.int .i64 0) := (blk_cell BK623.out 0).trans rfl; have hcz15_1 : w13.cell? ⟨gb623, 1, none⟩ = some (.int .i64 0) := (blk_cell BK623.out 1).trans rfl; have hcz15_2 : w13.cell? ⟨gb623, 2, none⟩ = some (.int .i64 0) := (blk_cell BK623.out 2).trans rfl; have hfz15_0 := blk_frozen BK623.out 0; have hfz15_1 := blk_frozen BK623.out 1; have hfz15_2 := blk_frozen BK623.out 2))
  go_loopg [10, 11, 12, 13] k (fun kq v10 v11 v12 v13 w' => ∃ (x10_1 : List (List Int)) (x11_1 : List (List Int)) (x12_1 : List (List Int)) (x13_1 : Int), v13 = .int .i64 x13_1 ∧ Aside0 (gambrellaw11_CodecLinear.l0 kq l1 l2 t619 (wrap64 ((wrap64 (Int.tdiv (wrap64 ((ji7) / t621)) 2)) * 2)) x10_1 x11_1 x12_1 x13_1 t620 t621 t622 = some r) ∧ Aside0 (kq ≤ k) ∧ Aside0 (Kd.V (Kd.int .u8) 5 w' w.heap.size (fun k_ => ((P1_ k_ ∨ P2_ k_) ∨ w.heap.size ≤ k_) ∧ some k_ ≠ (v10 : Value).ownBlock ∧ some k_ ≠ (v11 : Value).ownBlock ∧ some k_ ≠ (v12 : Value).ownBlock ∧ k_ ≠ gb618 ∧ k_ ≠ gb623) (.slice A1 l1.length c1) l1) ∧ Aside0 (Kd.V (Kd.int .u8) 5 w' w.heap.size (fun k_ => ((P1_ k_ ∨ P2_ k_) ∨ w.heap.size ≤ k_) ∧ some k_ ≠ (v10 : Value).ownBlock ∧ some k_ ≠ (v11 : Value).ownBlock ∧ some k_ ≠ (v12 : Value).ownBlock ∧ k_ ≠ gb618 ∧ k_ ≠ gb623) (.slice A2 l2.length c2) l2) ∧ Aside0 (Kd.N (Kd.slice 5 (Kd.int .u8)) 34 w' w.heap.size (fun k_ => ((P1_ k_ ∨ P2_ k_) ∨ w.heap.size ≤ k_) ∧ some k_ ≠ (v11 : Value).ownBlock ∧ some k_ ≠ (v12 : Value).ownBlock ∧ k_ ≠ gb618 ∧ k_ ≠ gb623) v10 x10_1) ∧ Aside0 (Kd.N (Kd.slice 5 (Kd.int .u8)) 34 w' w.heap.size (fun k_ => ((P1_ k_ ∨ P2_ k_) ∨ w.heap.size ≤ k_) ∧ some k_ ≠ (v10 : Value).ownBlock ∧ some k_ ≠ (v12 : Value).ownBlock ∧ k_ ≠ gb618 ∧ k_ ≠ gb623) v11 x11_1) ∧ Aside0 (Kd.N (Kd.slice 5 (Kd.int .u8)) 34 w' w.heap.size (fun k_ => ((P1_ k_ ∨ P2_ k_) ∨ w.heap.size ≤ k_) ∧ some k_ ≠ (v10 : Value).ownBlock ∧ some k_ ≠ (v11 : Value).ownBlock ∧ k_ ≠ gb618 ∧ k_ ≠ gb623) v12 x12_1) ∧ Aside0 (w'.heap[gb618]? = some (.cells #[.int .u8 a0_0, .int .u8 a0_1, .int .u8 a0_2] 38 (0, 0))) ∧ Aside0 (w'.heap[gb623]? = some (.cells #[.int .i64 t620, .int .i64 t621, .int .i64 t622] 23 (0, 0))) ∧ Aside0 (Below w.heap.size w w'))
  case atStart => exact ⟨(([] : List (List Int))), (([] : List (List Int))), (([] : List (List Int))), (0), sd_, H', ⟨Nat.le_refl _⟩, ⟨by (with_reducible repeat (first | apply Kd.V_alloc | apply Kd.V_drewN | apply Kd.V_drew)); exact Kd.V_mono (Kd.V_far (p := ⟨gb623, 2, none⟩) (Kd.V_far (p := ⟨gb623, 1, none⟩) (Kd.V_far (p := ⟨gb623, 0, none⟩) (Kd.V_mono HO1.out (fun k_ hk => (⟨hk, hk.2⟩ : _ ∧ k_ ≠ gb623))) (fun _ hk => hk.2) (.int .i64 t620)) (fun _ hk => hk.2) (.int .i64 t621)) (fun _ hk => hk.2) (.int .i64 t622)) (fun _ hk => ⟨hk.1.1.1, ⟨(by simp [Value.ownBlock]), ⟨(by simp [Value.ownBlock]), ⟨(by simp [Value.ownBlock]), ⟨hk.1.1.2, hk.1.2⟩⟩⟩⟩⟩)⟩, ⟨by (with_reducible repeat (first | apply Kd.V_alloc | apply Kd.V_drewN | apply Kd.V_drew)); exact Kd.V_mono (Kd.V_far (p := ⟨gb623, 2, none⟩) (Kd.V_far (p := ⟨gb623, 1, none⟩) (Kd.V_far (p := ⟨gb623, 0, none⟩) (Kd.V_mono HO2.out (fun k_ hk => (⟨hk, hk.2⟩ : _ ∧ k_ ≠ gb623))) (fun _ hk => hk.2) (.int .i64 t620)) (fun _ hk => hk.2) (.int .i64 t621)) (fun _ hk => hk.2) (.int .i64 t622)) (fun _ hk => ⟨hk.1.1.1, ⟨(by simp [Value.ownBlock]), ⟨(by simp [Value.ownBlock]), ⟨(by simp [Value.ownBlock]), ⟨hk.1.1.2, hk.1.2⟩⟩⟩⟩⟩)⟩, ⟨nl_⟩, ⟨nl_⟩, ⟨nl_⟩, ⟨by (with_reducible repeat (first | refine blk_drewN ?_ _ | refine blk_drew ?_ | refine blk_alloc ?_ _)); refine blk_far ?_ NB618_623.out _; (with_reducible repeat (first | refine blk_drewN ?_ _ | refine blk_drew ?_ | refine blk_alloc ?_ _)); refine blk_far ?_ NB618_623.out _; (with_reducible repeat (first | refine blk_drewN ?_ _ | refine blk_drew ?_ | refine blk_alloc ?_ _)); refine blk_far ?_ NB618_623.out _; (with_reducible repeat (first | refine blk_drewN ?_ _ | refine blk_drew ?_ | refine blk_alloc ?_ _)); exact BK618.out⟩, ⟨by (with_reducible repeat (first | refine blk_drewN ?_ _ | refine blk_drew ?_ | refine blk_alloc ?_ _)); refine blk_put (cs := #[.int .i64 t620, .int .i64 t621, .int .i64 0]) ?_ 2 _ rfl; (with_reducible repeat (first | refine blk_drewN ?_ _ | refine blk_drew ?_ | refine blk_alloc ?_ _)); refine blk_put (cs := #[.int .i64 t620, .int .i64 0, .int .i64 0]) ?_ 1 _ rfl; (with_reducible repeat (first | refine blk_drewN ?_ _ | refine blk_drew ?_ | refine blk_alloc ?_ _)); refine blk_put (cs := #[.int .i64 0, .int .i64 0, .int .i64 0]) ?_ 0 _ rfl; (with_reducible repeat (first | refine blk_drewN ?_ _ | refine blk_drew ?_ | refine blk_alloc ?_ _)); exact BK623.out⟩, ⟨bl_⟩⟩
  case round =>
   clear H'
   try clear c1
   try clear c2
   try clear p2
   try clear c5
   try clear p6
   try clear c8
   try clear c8b0
   try clear c8b1
   try clear c14
   try clear c15
   try clear hcz11_0
   try clear hcz11_1
   try clear hcz11_2
   try clear hcz15_0
   try clear hcz15_1
   try clear hcz15_2
   try clear hfz11_0
   try clear hfz11_1
   try clear hfz11_2
   try clear hfz15_0
   try clear hfz15_1
   try clear hfz15_2
   obtain ⟨x10_1, x11_1, x12_1, x13_1, rfl, HA, HK1, HO_1, HO_2, HO_10, HO_11, HO_12, BK618, BK623, HB⟩ := hrel
   cases gk with
   | zero => exact absurd HA.out (by simp [gambrellaw11_CodecLinear.l0])
   | succ k1 =>
    have H := HA.out
    clear HA
    simp only [gambrellaw11_CodecLinear.l0] at H
    by_cases c16 : x13_1 < t621
    ·rw [if_pos c16] at H
     have c16b0 : decide (x13_1 < t621) = true := decide_eq_true c16
     clear c16
     obtain ⟨ji17, hji17⟩ : ∃ j_ : Int, (wrap64 (x13_1 * (wrap64 ((wrap64 (Int.tdiv (wrap64 ((ji7) / t621)) 2)) * 2)))) = j_ := ⟨_, rfl⟩
     replace H : (if 0 ≤ (ji17) then (if (ji17) ≤ (wrap64 ((wrap64 (x13_1 + 1)) * (wrap64 ((wrap64 (Int.tdiv (wrap64 ((ji7) / t621)) 2)) * 2)))) then (if (wrap64 ((wrap64 (x13_1 + 1)) * (wrap64 ((wrap64 (Int.tdiv (wrap64 ((ji7) / t621)) 2)) * 2)))) ≤ (l1.length : Int) then (if x10_1.length < 5864062014805 then (if (wrap64 ((wrap64 (x13_1 + 1)) * (wrap64 ((wrap64 (Int.tdiv (wrap64 ((ji7) / t621)) 2)) * 2)))) ≤ (l2.length : Int) then (if x11_1.length < 5864062014805 then (gambrellaw11_CodecLinear.l1 k1 l1 l2 t619 (wrap64 ((wrap64 (Int.tdiv (wrap64 ((ji7) / t621)) 2)) * 2)) (x10_1 ++ [((l1.take ((wrap64 ((wrap64 (x13_1 + 1)) * (wrap64 ((wrap64 (Int.tdiv (wrap64 ((ji7) / t621)) 2)) * 2)))) : Int).toNat).drop ((ji17) : Int).toNat)]) (x11_1 ++ [((l2.take ((wrap64 ((wrap64 (x13_1 + 1)) * (wrap64 ((wrap64 (Int.tdiv (wrap64 ((ji7) / t621)) 2)) * 2)))) : Int).toNat).drop ((ji17) : Int).toNat)]) x12_1 x13_1 ([] : List Int) 0 t620 t621 t622) else (none)) else (none)) else (none)) else (none)) else (none)) else (none)) = some r := by first | (rw [hji17] at H; exact H) | (simp only [hji17] at H ⊢; exact H)
     have hji17w : (IntKind.i64.wrap (x13_1 * (wrap64 ((wrap64 (Int.tdiv (wrap64 ((ji7) / t621)) 2)) * 2)))) = ji17 := (i64_w _).trans hji17
     by_cases c18 : 0 ≤ (ji17)
     ·rw [if_pos c18] at H
      have c18b0 := eq_true c18
      have c18b1 : decide (0 ≤ (ji17)) = true := decide_eq_true c18
      clear c18
      by_cases c19 : (ji17) ≤ (wrap64 ((wrap64 (x13_1 + 1)) * (wrap64 ((wrap64 (Int.tdiv (wrap64 ((ji7) / t621)) 2)) * 2))))
      ·rw [if_pos c19] at H
       have c19b0 := eq_true c19
       have c19b1 : decide ((ji17) ≤ (wrap64 ((wrap64 (x13_1 + 1)) * (wrap64 ((wrap64 (Int.tdiv (wrap64 ((ji7) / t621)) 2)) * 2))))) = true := decide_eq_true c19
       by_cases c20 : (wrap64 ((wrap64 (x13_1 + 1)) * (wrap64 ((wrap64 (Int.tdiv (wrap64 ((ji7) / t621)) 2)) * 2)))) ≤ (l1.length : Int)
       ·rw [if_pos c20] at H
        have c20b0 := eq_true c20
        have c20b1 : decide ((wrap64 ((wrap64 (x13_1 + 1)) * (wrap64 ((wrap64 (Int.tdiv (wrap64 ((ji7) / t621)) 2)) * 2)))) ≤ (l1.length : Int)) = true := decide_eq_true c20
        obtain ⟨y624, hy624⟩ : ∃ y_ : List Int, y_ = ((l1.take ((wrap64 ((wrap64 (x13_1 + 1)) * (wrap64 ((wrap64 (Int.tdiv (wrap64 ((ji7) / t621)) 2)) * 2)))) : Int).toNat).drop ((ji17) : Int).toNat) := ⟨_, rfl⟩
        replace H : (if x10_1.length < 5864062014805 then (if (wrap64 ((wrap64 (x13_1 + 1)) * (wrap64 ((wrap64 (Int.tdiv (wrap64 ((ji7) / t621)) 2)) * 2)))) ≤ (l2.length : Int) then (if x11_1.length < 5864062014805 then (gambrellaw11_CodecLinear.l1 k1 l1 l2 t619 (wrap64 ((wrap64 (Int.tdiv (wrap64 ((ji7) / t621)) 2)) * 2)) (x10_1 ++ [y624]) (x11_1 ++ [((l2.take ((wrap64 ((wrap64 (x13_1 + 1)) * (wrap64 ((wrap64 (Int.tdiv (wrap64 ((ji7) / t621)) 2)) * 2)))) : Int).toNat).drop ((ji17) : Int).toNat)]) x12_1 x13_1 ([] : List Int) 0 t620 t621 t622) else (none)) else (none)) else (none)) = some r := by first | (rw [hy624]; with_reducible exact H) | (have H2_ := (Option.bind_some _ _).symm.trans H; rw [hy624]; with_reducible exact H2_) | (have H2_ := (Option.bind_some _ _).symm.trans H; with_reducible exact H2_) | with_reducible exact H | (rw [hy624]; exact H) | exact H
        have Ny624 := Aside0.mk hy624
        clear hy624
        by_cases c21 : x10_1.length < 5864062014805
        ·rw [if_pos c21] at H
         have LMc21 := Aside0.mk c21
         clear c21
         obtain ⟨y629, hy629⟩ : ∃ y_ : List (List Int), y_ = (x10_1 ++ [y624]) := ⟨_, rfl⟩
         replace H : (if (wrap64 ((wrap64 (x13_1 + 1)) * (wrap64 ((wrap64 (Int.tdiv (wrap64 ((ji7) / t621)) 2)) * 2)))) ≤ (l2.length : Int) then (if x11_1.length < 5864062014805 then (gambrellaw11_CodecLinear.l1 k1 l1 l2 t619 (wrap64 ((wrap64 (Int.tdiv (wrap64 ((ji7) / t621)) 2)) * 2)) y629 (x11_1 ++ [((l2.take ((wrap64 ((wrap64 (x13_1 + 1)) * (wrap64 ((wrap64 (Int.tdiv (wrap64 ((ji7) / t621)) 2)) * 2)))) : Int).toNat).drop ((ji17) : Int).toNat)]) x12_1 x13_1 ([] : List Int) 0 t620 t621 t622) else (none)) else (none)) = some r := by first | (rw [hy629]; with_reducible exact H) | (have H2_ := (Option.bind_some _ _).symm.trans H; rw [hy629]; with_reducible exact H2_) | (have H2_ := (Option.bind_some _ _).symm.trans H; with_reducible exact H2_) | with_reducible exact H | (rw [hy629]; exact H) | exact H
         have Ny629 := Aside0.mk hy629
         clear hy629
         have c22b0 := eq_true (of_decide_eq_true as_ : 0 ≤ (ji17))
         have c23b0 := eq_true (of_decide_eq_true as_ : (ji17) ≤ (wrap64 ((wrap64 (x13_1 + 1)) * (wrap64 ((wrap64 (Int.tdiv (wrap64 ((ji7) / t621)) 2)) * 2)))))
         by_cases c24 : (wrap64 ((wrap64 (x13_1 + 1)) * (wrap64 ((wrap64 (Int.tdiv (wrap64 ((ji7) / t621)) 2)) * 2)))) ≤ (l2.length : Int)
         ·rw [if_pos c24] at H
          have c24b0 := eq_true c24
          have c24b1 : decide ((wrap64 ((wrap64 (x13_1 + 1)) * (wrap64 ((wrap64 (Int.tdiv (wrap64 ((ji7) / t621)) 2)) * 2)))) ≤ (l2.length : Int)) = true := decide_eq_true c24
          obtain ⟨y632, hy632⟩ : ∃ y_ : List Int, y_ = ((l2.take ((wrap64 ((wrap64 (x13_1 + 1)) * (wrap64 ((wrap64 (Int.tdiv (wrap64 ((ji7) / t621)) 2)) * 2)))) : Int).toNat).drop ((ji17) : Int).toNat) := ⟨_, rfl⟩
          replace H : (if x11_1.length < 5864062014805 then (gambrellaw11_CodecLinear.l1 k1 l1 l2 t619 (wrap64 ((wrap64 (Int.tdiv (wrap64 ((ji7) / t621)) 2)) * 2)) y629 (x11_1 ++ [y632]) x12_1 x13_1 ([] : List Int) 0 t620 t621 t622) else (none)) = some r := by first | (rw [hy632]; with_reducible exact H) | (have H2_ := (Option.bind_some _ _).symm.trans H; rw [hy632]; with_reducible exact H2_) | (have H2_ := (Option.bind_some _ _).symm.trans H; with_reducible exact H2_) | with_reducible exact H | (rw [hy632]; exact H) | exact H
          have Ny632 := Aside0.mk hy632
          clear hy632
          by_cases c25 : x11_1.length < 5864062014805
          ·rw [if_pos c25] at H
           have LMc25 := Aside0.mk c25
           clear c25
           obtain ⟨y637, hy637⟩ : ∃ y_ : List (List Int), y_ = (x11_1 ++ [y632]) := ⟨_, rfl⟩
           replace H : (gambrellaw11_CodecLinear.l1 k1 l1 l2 t619 (wrap64 ((wrap64 (Int.tdiv (wrap64 ((ji7) / t621)) 2)) * 2)) y629 y637 x12_1 x13_1 ([] : List Int) 0 t620 t621 t622) = some r := by first | (rw [hy637]; with_reducible exact H) | (have H2_ := (Option.bind_some _ _).symm.trans H; rw [hy637]; with_reducible exact H2_) | (have H2_ := (Option.bind_some _ _).symm.trans H; with_reducible exact H2_) | with_reducible exact H | (rw [hy637]; exact H) | exact H
           have Ny637 := Aside0.mk hy637
           clear hy637
           have H' := Aside0.mk H
           clear H
           have hnb26 := NB623_618.out
           have hnc26 := NB618_623.out
           have hcz27_0 : wr.cell? ⟨gb623, 0, none⟩ = some (.int .i64 t620) := (blk_cell BK623.out 0).trans rfl
           have hcz27_1 : wr.cell? ⟨gb623, 1, none⟩ = some (.int .i64 t621) := (blk_cell BK623.out 1).trans rfl
           have hcz27_2 : wr.cell? ⟨gb623, 2, none⟩ = some (.int .i64 t622) := (blk_cell BK623.out 2).trans rfl
           have hfz27_0 := blk_frozen BK623.out 0
           have hfz27_1 := blk_frozen BK623.out 1
           have hfz27_2 := blk_frozen BK623.out 2
           have q28 : ((wrap64 ((wrap64 (x13_1 + 1)) * (wrap64 ((wrap64 (Int.tdiv (wrap64 ((ji7) / t621)) 2)) * 2)))) : Int) ≤ ((l1.length : Int) : Int) := of_decide_eq_true as_
           obtain ⟨i028, hi028, _, hsz28, _⟩ := info_parts info5
           have hroom28 : l1.length ≤ c1 := (Kd.V_reads' HO_1.out).2.1
           have hC28 : Kd.F (Kd.int .u8) _ _ A1 l1.length l1 := (Kd.V_at (base := w.heap.size) HO_1.out).2.2
           have ql28 : ((ji17) : Int) ≤ ((wrap64 ((wrap64 (x13_1 + 1)) * (wrap64 ((wrap64 (Int.tdiv (wrap64 ((ji7) / t621)) 2)) * 2)))) : Int) := of_decide_eq_true as_
           have q028 : (0 : Int) ≤ ((ji17) : Int) := of_decide_eq_true as_
           have hcut28 := cut_mid (P := Tryz.prog) 34 5 .i64 .i64 Tryz.underlying34 hi028 1 hsz28 A1 l1.length c1 (ji17) (wrap64 ((wrap64 (x13_1 + 1)) * (wrap64 ((wrap64 (Int.tdiv (wrap64 ((ji7) / t621)) 2)) * 2)))) q028 ql28 q28 hroom28
           have hr28 := Kd.F_mid (lo := ((ji17) : Int).toNat) (hi := ((wrap64 ((wrap64 (x13_1 + 1)) * (wrap64 ((wrap64 (Int.tdiv (wrap64 ((ji7) / t621)) 2)) * 2)))) : Int).toNat) (c := c1) hC28 (by omega) (by omega) hroom28
           obtain ⟨A28, hA28⟩ : ∃ Aq_, Aq_ = (if c1 = ((ji17) : Int).toNat then A1 else (A1 : Option Addr).map (·.add (((ji17) : Int).toNat * 1))) := ⟨_, rfl⟩
           obtain ⟨c28, hc28⟩ : ∃ cq_, cq_ = c1 - ((ji17) : Int).toNat := ⟨_, rfl⟩
           have hy28 : y624.length = ((wrap64 ((wrap64 (x13_1 + 1)) * (wrap64 ((wrap64 (Int.tdiv (wrap64 ((ji7) / t621)) 2)) * 2)))) : Int).toNat - ((ji17) : Int).toNat := (by rw [Ny624.out, List.length_drop, List.length_take] <;> omega)
           rw [show ((l1).take ((wrap64 ((wrap64 (x13_1 + 1)) * (wrap64 ((wrap64 (Int.tdiv (wrap64 ((ji7) / t621)) 2)) * 2)))) : Int).toNat).drop ((ji17) : Int).toNat = y624 from Ny624.out.symm] at hr28
           replace hr28 : Kd.F (Kd.int .u8) _ _ A28 y624.length y624 := (by rw [hA28]; exact hr28)
           rw [← hy28, ← hA28, ← hc28] at hcut28
           have HO628 := Aside0.mk (show Kd.V (Kd.int .u8) 5 _ w.heap.size _ (.slice A28 y624.length c28) y624 from Kd.V_mk (by rw [hy28, hc28]; exact Nat.sub_le_sub_right (Nat.le_trans (by omega) hroom28) _) hr28)
           have HC628 := Aside0.mk (show y624.length ≤ c28 from by rw [hy28, hc28]; exact Nat.sub_le_sub_right (Nat.le_trans (by omega) hroom28) _)
           clear hr28 hC28 hroom28 hi028 hsz28 hc28
           have KY28 := Aside0.mk hy28
           have KA28 := Aside0.mk hA28
           clear hy28 hA28
           replace q28 := eq_true q28
           go_wp2_with (first | ((with_reducible refine gate_builtin (b := .append) (xs := #[.tmp 43, .tmp 53]) rfl ?_); (try (refine gate_guard (by rfl) ?_; dsimp only)); at_builtin; refine Kd.N_append (Kd.slice 5 (Kd.int .u8)) (w0 := w) w.heap.size rfl (.tmp 43) (.tmp 53) 24 34 (.slice none 0 0) 24 rfl Tryz.underlying24 info34 rfl (by decide) (by omega) u10 x10_1 y624 [.slice A28 y624.length c28] (fun k_ => ((P1_ k_ ∨ P2_ k_) ∨ w.heap.size ≤ k_) ∧ some k_ ≠ (u11 : Value).ownBlock ∧ some k_ ≠ (u12 : Value).ownBlock ∧ k_ ≠ gb618 ∧ k_ ≠ gb623) (fun k_ => ((fun k_ => ((P1_ k_ ∨ P2_ k_) ∨ w.heap.size ≤ k_) ∧ some k_ ≠ (u11 : Value).ownBlock ∧ some k_ ≠ (u12 : Value).ownBlock ∧ k_ ≠ gb618 ∧ k_ ≠ gb623)) k_ ∧ some k_ ≠ (u10 : Value).ownBlock) rfl rfl ?aP (fun _ hk => hk) ?aF ?aO ?aB ?aS ?aL ?_; (case aP => exact (Kd.FK_slice_mk (Kd.V_reads' (Kd.V_mono (ok' := (fun k_ => ((fun k_ => ((P1_ k_ ∨ P2_ k_) ∨ w.heap.size ≤ k_) ∧ some k_ ≠ (u11 : Value).ownBlock ∧ some k_ ≠ (u12 : Value).ownBlock ∧ k_ ≠ gb618 ∧ k_ ≠ gb623)) k_ ∧ some k_ ≠ (u10 : Value).ownBlock)) (HO628.out) (fun k_ hk => ⟨⟨hk.1, ⟨hk.2.2.1, ⟨hk.2.2.2.1, ⟨hk.2.2.2.2.1, hk.2.2.2.2.2⟩⟩⟩⟩, hk.2.1⟩))).2.1 (Kd.V_F (Kd.V_mono (ok' := (fun k_ => ((fun k_ => ((P1_ k_ ∨ P2_ k_) ∨ w.heap.size ≤ k_) ∧ some k_ ≠ (u11 : Value).ownBlock ∧ some k_ ≠ (u12 : Value).ownBlock ∧ k_ ≠ gb618 ∧ k_ ≠ gb623)) k_ ∧ some k_ ≠ (u10 : Value).ownBlock)) (HO628.out) (fun k_ hk => ⟨⟨hk.1, ⟨hk.2.2.1, ⟨hk.2.2.2.1, ⟨hk.2.2.2.2.1, hk.2.2.2.2.2⟩⟩⟩⟩, hk.2.1⟩))))); (case aB => exact bl_); (case aF => exact (fun k_ hk => ⟨(.inr (Nat.le_trans (below_size bl_) hk)), Kd.fresh' (Kd.N_lt (by (with_reducible repeat (first | apply Kd.N_alloc | apply Kd.N_drewN | apply Kd.N_drew)); exact HO_11.out)) k_ hk, Kd.fresh' (Kd.N_lt (by (with_reducible repeat (first | apply Kd.N_alloc | apply Kd.N_drewN | apply Kd.N_drew)); exact HO_12.out)) k_ hk, Kd.freshB (g := gb618) (o := .cells #[.int .u8 a0_0, .int .u8 a0_1, .int .u8 a0_2] 38 (0, 0)) bk_ k_ hk, Kd.freshB (g := gb623) (o := .cells #[.int .i64 t620, .int .i64 t621, .int .i64 t622] 23 (0, 0)) bk_ k_ hk⟩)); (case aO => exact (by (with_reducible repeat (first | apply Kd.N_alloc | apply Kd.N_drewN | apply Kd.N_drew)); exact HO_10.out)); (case aS => exact (below_size bl_)); (case aL => have := LMc21.out; omega); intro v630 w29 ho hb hg hat; rw [← Ny629.out] at ho; have n0_ := Aside0.mk (Kd.V_afterv (ok := (fun k_ => ((P1_ k_ ∨ P2_ k_) ∨ w.heap.size ≤ k_) ∧ some k_ ≠ (u11 : Value).ownBlock ∧ some k_ ≠ (u12 : Value).ownBlock ∧ k_ ≠ gb618 ∧ k_ ≠ gb623)) (by (with_reducible repeat (first | apply Kd.V_alloc | apply Kd.V_drewN | apply Kd.V_drew)); exact Kd.V_mono HO_1.out (fun _ hk => ⟨⟨hk.1, ⟨hk.2.2.1, ⟨hk.2.2.2.1, ⟨hk.2.2.2.2.1, hk.2.2.2.2.2⟩⟩⟩⟩, hk.2.1⟩)) hg hat); have n1_ := Aside0.mk (Kd.V_afterv (ok := (fun k_ => ((P1_ k_ ∨ P2_ k_) ∨ w.heap.size ≤ k_) ∧ some k_ ≠ (u11 : Value).ownBlock ∧ some k_ ≠ (u12 : Value).ownBlock ∧ k_ ≠ gb618 ∧ k_ ≠ gb623)) (by (with_reducible repeat (first | apply Kd.V_alloc | apply Kd.V_drewN | apply Kd.V_drew)); exact Kd.V_mono HO_2.out (fun _ hk => ⟨⟨hk.1, ⟨hk.2.2.1, ⟨hk.2.2.2.1, ⟨hk.2.2.2.2.1, hk.2.2.2.2.2⟩⟩⟩⟩, hk.2.1⟩)) hg hat); have n2_ := Aside0.mk (Kd.N_afterv (ok := (fun k_ => ((P1_ k_ ∨ P2_ k_) ∨ w.heap.size ≤ k_) ∧ some k_ ≠ (u12 : Value).ownBlock ∧ k_ ≠ gb618 ∧ k_ ≠ gb623)) (by (with_reducible repeat (first | apply Kd.N_alloc | apply Kd.N_drewN | apply Kd.N_drew)); exact Kd.N_mono HO_11.out (fun _ hk => ⟨⟨hk.1, ⟨hk.2.2.1, ⟨hk.2.2.2.1, hk.2.2.2.2⟩⟩⟩, hk.2.1⟩)) hg hat); have n3_ := Aside0.mk (Kd.N_afterv (ok := (fun k_ => ((P1_ k_ ∨ P2_ k_) ∨ w.heap.size ≤ k_) ∧ some k_ ≠ (u11 : Value).ownBlock ∧ k_ ≠ gb618 ∧ k_ ≠ gb623)) (by (with_reducible repeat (first | apply Kd.N_alloc | apply Kd.N_drewN | apply Kd.N_drew)); exact Kd.N_mono HO_12.out (fun _ hk => ⟨⟨hk.1, ⟨hk.2.2.1, ⟨hk.2.2.2.1, hk.2.2.2.2⟩⟩⟩, hk.2.1⟩)) hg hat); have n4_ := Aside0.mk (blk_grown (g := gb618) (o := .cells #[.int .u8 a0_0, .int .u8 a0_1, .int .u8 a0_2] 38 (0, 0)) bk_ hg (Kd.N_ne HO_10.out BK618.out (by decide))); have n5_ := Aside0.mk (blk_grown (g := gb623) (o := .cells #[.int .i64 t620, .int .i64 t621, .int .i64 t622] 23 (0, 0)) bk_ hg (Kd.N_ne HO_10.out BK623.out (by decide))); have n6_ := Aside0.mk (Kd.V_afterv (ok := (fun k_ => ((P1_ k_ ∨ P2_ k_) ∨ w.heap.size ≤ k_) ∧ some k_ ≠ (u11 : Value).ownBlock ∧ some k_ ≠ (u12 : Value).ownBlock ∧ k_ ≠ gb618 ∧ k_ ≠ gb623)) (by (with_reducible repeat (first | apply Kd.V_alloc | apply Kd.V_drewN | apply Kd.V_drew)); exact Kd.V_mono HO628.out (fun _ hk => ⟨⟨hk.1, ⟨hk.2.2.1, ⟨hk.2.2.2.1, ⟨hk.2.2.2.2.1, hk.2.2.2.2.2⟩⟩⟩⟩, hk.2.1⟩)) hg hat); have n7_ := Aside0.mk (hb); have n8_ := Aside0.mk (ho); clear HO_1; clear HO_2; clear HO_11; clear HO_12; clear BK618; clear BK623; clear HO628; clear HB; clear HO_10; have HO_1 := n0_; have HO_2 := n1_; have HO_11 := n2_; have HO_12 := n3_; have BK618 := n4_; have BK623 := n5_; have HO628 := n6_; have HB := n7_; have HO631 := n8_; clear n0_ n1_ n2_ n3_ n4_ n5_ n6_ n7_ n8_; clear ho hb hg hat; have q30 : ((wrap64 ((wrap64 (x13_1 + 1)) * (wrap64 ((wrap64 (Int.tdiv (wrap64 ((ji7) / t621)) 2)) * 2)))) : Int) ≤ ((l2.length : Int) : Int) := of_decide_eq_true as_; obtain ⟨i030, hi030, _, hsz30, _⟩ := info_parts info5; have hroom30 : l2.length ≤ c2 := (Kd.V_reads' HO_2.out).2.1; have hC30 : Kd.F (Kd.int .u8) _ _ A2 l2.length l2 := (Kd.V_at (base := w.heap.size) HO_2.out).2.2; have ql30 : ((ji17) : Int) ≤ ((wrap64 ((wrap64 (x13_1 + 1)) * (wrap64 ((wrap64 (Int.tdiv (wrap64 ((ji7) / t621)) 2)) * 2)))) : Int) := of_decide_eq_true as_; have q030 : (0 : Int) ≤ ((ji17) : Int) := of_decide_eq_true as_; have hcut30 := cut_mid (P := Tryz.prog) 34 5 .i64 .i64 Tryz.underlying34 hi030 1 hsz30 A2 l2.length c2 (ji17) (wrap64 ((wrap64 (x13_1 + 1)) * (wrap64 ((wrap64 (Int.tdiv (wrap64 ((ji7) / t621)) 2)) * 2)))) q030 ql30 q30 hroom30; have hr30 := Kd.F_mid (lo := ((ji17) : Int).toNat) (hi := ((wrap64 ((wrap64 (x13_1 + 1)) * (wrap64 ((wrap64 (Int.tdiv (wrap64 ((ji7) / t621)) 2)) * 2)))) : Int).toNat) (c := c2) hC30 (by omega) (by omega) hroom30; obtain ⟨A30, hA30⟩ : ∃ Aq_, Aq_ = (if c2 = ((ji17) : Int).toNat then A2 else (A2 : Option Addr).map (·.add (((ji17) : Int).toNat * 1))) := ⟨_, rfl⟩; obtain ⟨c30, hc30⟩ : ∃ cq_, cq_ = c2 - ((ji17) : Int).toNat := ⟨_, rfl⟩; have hy30 : y632.length = ((wrap64 ((wrap64 (x13_1 + 1)) * (wrap64 ((wrap64 (Int.tdiv (wrap64 ((ji7) / t621)) 2)) * 2)))) : Int).toNat - ((ji17) : Int).toNat := (by rw [Ny632.out, List.length_drop, List.length_take] <;> omega); rw [show ((l2).take ((wrap64 ((wrap64 (x13_1 + 1)) * (wrap64 ((wrap64 (Int.tdiv (wrap64 ((ji7) / t621)) 2)) * 2)))) : Int).toNat).drop ((ji17) : Int).toNat = y632 from Ny632.out.symm] at hr30; replace hr30 : Kd.F (Kd.int .u8) _ _ A30 y632.length y632 := (by rw [hA30]; exact hr30); rw [← hy30, ← hA30, ← hc30] at hcut30; have HO636 := Aside0.mk (show Kd.V (Kd.int .u8) 5 _ w.heap.size _ (.slice A30 y632.length c30) y632 from Kd.V_mk (by rw [hy30, hc30]; exact Nat.sub_le_sub_right (Nat.le_trans (by omega) hroom30) _) hr30); have HC636 := Aside0.mk (show y632.length ≤ c30 from by rw [hy30, hc30]; exact Nat.sub_le_sub_right (Nat.le_trans (by omega) hroom30) _); clear hr30 hC30 hroom30 hi030 hsz30 hc30; have KY30 := Aside0.mk hy30; have KA30 := Aside0.mk hA30; clear hy30 hA30; replace q30 := eq_true q30) | ((with_reducible refine gate_builtin (b := .append) (xs := #[.tmp 55, .tmp 65]) rfl ?_); (try (refine gate_guard (by rfl) ?_; dsimp only)); at_builtin; refine Kd.N_append (Kd.slice 5 (Kd.int .u8)) (w0 := w) w.heap.size rfl (.tmp 55) (.tmp 65) 24 34 (.slice none 0 0) 24 rfl Tryz.underlying24 info34 rfl (by decide) (by omega) u11 x11_1 y632 [.slice A30 y632.length c30] (fun k_ => ((P1_ k_ ∨ P2_ k_) ∨ w.heap.size ≤ k_) ∧ some k_ ≠ (u12 : Value).ownBlock ∧ some k_ ≠ (v630 : Value).ownBlock ∧ k_ ≠ gb618 ∧ k_ ≠ gb623) (fun k_ => ((fun k_ => ((P1_ k_ ∨ P2_ k_) ∨ w.heap.size ≤ k_) ∧ some k_ ≠ (u12 : Value).ownBlock ∧ some k_ ≠ (v630 : Value).ownBlock ∧ k_ ≠ gb618 ∧ k_ ≠ gb623)) k_ ∧ some k_ ≠ (u11 : Value).ownBlock) rfl rfl ?aP (fun _ hk => hk) ?aF ?aO ?aB ?aS ?aL ?_; (case aP => exact (Kd.FK_slice_mk (Kd.V_reads' (Kd.V_mono (ok' := (fun k_ => ((fun k_ => ((P1_ k_ ∨ P2_ k_) ∨ w.heap.size ≤ k_) ∧ some k_ ≠ (u12 : Value).ownBlock ∧ some k_ ≠ (v630 : Value).ownBlock ∧ k_ ≠ gb618 ∧ k_ ≠ gb623)) k_ ∧ some k_ ≠ (u11 : Value).ownBlock)) (HO636.out) (fun k_ hk => ⟨⟨hk.1.1, ⟨hk.1.2.2.1, ⟨hk.2, ⟨hk.1.2.2.2.1, hk.1.2.2.2.2⟩⟩⟩⟩, hk.1.2.1⟩))).2.1 (Kd.V_F (Kd.V_mono (ok' := (fun k_ => ((fun k_ => ((P1_ k_ ∨ P2_ k_) ∨ w.heap.size ≤ k_) ∧ some k_ ≠ (u12 : Value).ownBlock ∧ some k_ ≠ (v630 : Value).ownBlock ∧ k_ ≠ gb618 ∧ k_ ≠ gb623)) k_ ∧ some k_ ≠ (u11 : Value).ownBlock)) (HO636.out) (fun k_ hk => ⟨⟨hk.1.1, ⟨hk.1.2.2.1, ⟨hk.2, ⟨hk.1.2.2.2.1, hk.1.2.2.2.2⟩⟩⟩⟩, hk.1.2.1⟩))))); (case aB => exact bl_); (case aF => exact (fun k_ hk => ⟨(.inr (Nat.le_trans (below_size bl_) hk)), Kd.fresh' (Kd.N_lt (by (with_reducible repeat (first | apply Kd.N_alloc | apply Kd.N_drewN | apply Kd.N_drew)); exact HO_12.out)) k_ hk, Kd.fresh' (Kd.N_lt (by (with_reducible repeat (first | apply Kd.N_alloc | apply Kd.N_drewN | apply Kd.N_drew)); exact HO631.out)) k_ hk, Kd.freshB (g := gb618) (o := .cells #[.int .u8 a0_0, .int .u8 a0_1, .int .u8 a0_2] 38 (0, 0)) bk_ k_ hk, Kd.freshB (g := gb623) (o := .cells #[.int .i64 t620, .int .i64 t621, .int .i64 t622] 23 (0, 0)) bk_ k_ hk⟩)); (case aO => exact (by (with_reducible repeat (first | apply Kd.N_alloc | apply Kd.N_drewN | apply Kd.N_drew)); exact Kd.N_mono HO_11.out (fun _ hk => ⟨hk.1.1, ⟨hk.1.2.1, ⟨hk.2, ⟨hk.1.2.2.1, hk.1.2.2.2⟩⟩⟩⟩))); (case aS => exact (below_size bl_)); (case aL => have := LMc25.out; omega); intro v638 w31 ho hb hg hat; rw [← Ny637.out] at ho; have n0_ := Aside0.mk (Kd.V_afterv (ok := (fun k_ => ((P1_ k_ ∨ P2_ k_) ∨ w.heap.size ≤ k_) ∧ some k_ ≠ (u12 : Value).ownBlock ∧ some k_ ≠ (v630 : Value).ownBlock ∧ k_ ≠ gb618 ∧ k_ ≠ gb623)) (by (with_reducible repeat (first | apply Kd.V_alloc | apply Kd.V_drewN | apply Kd.V_drew)); exact Kd.V_mono HO_1.out (fun _ hk => ⟨⟨hk.1.1, ⟨hk.1.2.2.1, ⟨hk.2, ⟨hk.1.2.2.2.1, hk.1.2.2.2.2⟩⟩⟩⟩, hk.1.2.1⟩)) hg hat); have n1_ := Aside0.mk (Kd.V_afterv (ok := (fun k_ => ((P1_ k_ ∨ P2_ k_) ∨ w.heap.size ≤ k_) ∧ some k_ ≠ (u12 : Value).ownBlock ∧ some k_ ≠ (v630 : Value).ownBlock ∧ k_ ≠ gb618 ∧ k_ ≠ gb623)) (by (with_reducible repeat (first | apply Kd.V_alloc | apply Kd.V_drewN | apply Kd.V_drew)); exact Kd.V_mono HO_2.out (fun _ hk => ⟨⟨hk.1.1, ⟨hk.1.2.2.1, ⟨hk.2, ⟨hk.1.2.2.2.1, hk.1.2.2.2.2⟩⟩⟩⟩, hk.1.2.1⟩)) hg hat); have n2_ := Aside0.mk (Kd.N_afterv (ok := (fun k_ => ((P1_ k_ ∨ P2_ k_) ∨ w.heap.size ≤ k_) ∧ some k_ ≠ (v630 : Value).ownBlock ∧ k_ ≠ gb618 ∧ k_ ≠ gb623)) (by (with_reducible repeat (first | apply Kd.N_alloc | apply Kd.N_drewN | apply Kd.N_drew)); exact Kd.N_mono HO_12.out (fun _ hk => ⟨⟨hk.1.1, ⟨hk.2, ⟨hk.1.2.2.1, hk.1.2.2.2⟩⟩⟩, hk.1.2.1⟩)) hg hat); have n3_ := Aside0.mk (blk_grown (g := gb618) (o := .cells #[.int .u8 a0_0, .int .u8 a0_1, .int .u8 a0_2] 38 (0, 0)) bk_ hg (Kd.N_ne HO_11.out BK618.out (by decide))); have n4_ := Aside0.mk (blk_grown (g := gb623) (o := .cells #[.int .i64 t620, .int .i64 t621, .int .i64 t622] 23 (0, 0)) bk_ hg (Kd.N_ne HO_11.out BK623.out (by decide))); have n5_ := Aside0.mk (Kd.V_afterv (ok := (fun k_ => ((P1_ k_ ∨ P2_ k_) ∨ w.heap.size ≤ k_) ∧ some k_ ≠ (u12 : Value).ownBlock ∧ some k_ ≠ (v630 : Value).ownBlock ∧ k_ ≠ gb618 ∧ k_ ≠ gb623)) (by (with_reducible repeat (first | apply Kd.V_alloc | apply Kd.V_drewN | apply Kd.V_drew)); exact Kd.V_mono HO628.out (fun _ hk => ⟨⟨hk.1.1, ⟨hk.1.2.2.1, ⟨hk.2, ⟨hk.1.2.2.2.1, hk.1.2.2.2.2⟩⟩⟩⟩, hk.1.2.1⟩)) hg hat); have n6_ := Aside0.mk (Kd.N_afterv (ok := (fun k_ => ((P1_ k_ ∨ P2_ k_) ∨ w.heap.size ≤ k_) ∧ some k_ ≠ (u12 : Value).ownBlock ∧ k_ ≠ gb618 ∧ k_ ≠ gb623)) (by (with_reducible repeat (first | apply Kd.N_alloc | apply Kd.N_drewN | apply Kd.N_drew)); exact Kd.N_mono HO631.out (fun _ hk => ⟨⟨hk.1, ⟨hk.2.2.1, ⟨hk.2.2.2.1, hk.2.2.2.2⟩⟩⟩, hk.2.1⟩)) hg hat); have n7_ := Aside0.mk (Kd.V_afterv (ok := (fun k_ => ((P1_ k_ ∨ P2_ k_) ∨ w.heap.size ≤ k_) ∧ some k_ ≠ (u12 : Value).ownBlock ∧ some k_ ≠ (v630 : Value).ownBlock ∧ k_ ≠ gb618 ∧ k_ ≠ gb623)) (by (with_reducible repeat (first | apply Kd.V_alloc | apply Kd.V_drewN | apply Kd.V_drew)); exact Kd.V_mono HO636.out (fun _ hk => ⟨⟨hk.1.1, ⟨hk.1.2.2.1, ⟨hk.2, ⟨hk.1.2.2.2.1, hk.1.2.2.2.2⟩⟩⟩⟩, hk.1.2.1⟩)) hg hat); have n8_ := Aside0.mk (hb); have n9_ := Aside0.mk (ho); clear HO_1; clear HO_2; clear HO_12; clear BK618; clear BK623; clear HO628; clear HO631; clear HO636; clear HB; clear HO_11; have HO_1 := n0_; have HO_2 := n1_; have HO_12 := n2_; have BK618 := n3_; have BK623 := n4_; have HO628 := n5_; have HO631 := n6_; have HO636 := n7_; have HB := n8_; have HO639 := n9_; clear n0_ n1_ n2_ n3_ n4_ n5_ n6_ n7_ n8_ n9_; clear ho hb hg hat))
           go_loopg [14, 15] k1 (fun kq v14 v15 w' => ∃ (x14_2 : List Int) (x15_2 : Int), v15 = .int .i64 x15_2 ∧ Aside0 (gambrellaw11_CodecLinear.l1 kq l1 l2 t619 (wrap64 ((wrap64 (Int.tdiv (wrap64 ((ji7) / t621)) 2)) * 2)) y629 y637 x12_1 x13_1 x14_2 x15_2 t620 t621 t622 = some r) ∧ Aside0 (kq ≤ k1) ∧ Aside0 (Kd.V (Kd.int .u8) 5 w' w.heap.size (fun k_ => ((P1_ k_ ∨ P2_ k_) ∨ w.heap.size ≤ k_) ∧ some k_ ≠ (v630 : Value).ownBlock ∧ some k_ ≠ (v638 : Value).ownBlock ∧ some k_ ≠ (u12 : Value).ownBlock ∧ some k_ ≠ (v14 : Value).ownBlock ∧ k_ ≠ gb618 ∧ k_ ≠ gb623) (.slice A1 l1.length c1) l1) ∧ Aside0 (Kd.V (Kd.int .u8) 5 w' w.heap.size (fun k_ => ((P1_ k_ ∨ P2_ k_) ∨ w.heap.size ≤ k_) ∧ some k_ ≠ (v630 : Value).ownBlock ∧ some k_ ≠ (v638 : Value).ownBlock ∧ some k_ ≠ (u12 : Value).ownBlock ∧ some k_ ≠ (v14 : Value).ownBlock ∧ k_ ≠ gb618 ∧ k_ ≠ gb623) (.slice A2 l2.length c2) l2) ∧ Aside0 (Kd.N (Kd.slice 5 (Kd.int .u8)) 34 w' w.heap.size (fun k_ => ((P1_ k_ ∨ P2_ k_) ∨ w.heap.size ≤ k_) ∧ some k_ ≠ (v638 : Value).ownBlock ∧ some k_ ≠ (u12 : Value).ownBlock ∧ some k_ ≠ (v14 : Value).ownBlock ∧ k_ ≠ gb618 ∧ k_ ≠ gb623) v630 y629) ∧ Aside0 (Kd.N (Kd.slice 5 (Kd.int .u8)) 34 w' w.heap.size (fun k_ => ((P1_ k_ ∨ P2_ k_) ∨ w.heap.size ≤ k_) ∧ some k_ ≠ (v630 : Value).ownBlock ∧ some k_ ≠ (u12 : Value).ownBlock ∧ some k_ ≠ (v14 : Value).ownBlock ∧ k_ ≠ gb618 ∧ k_ ≠ gb623) v638 y637) ∧ Aside0 (Kd.N (Kd.slice 5 (Kd.int .u8)) 34 w' w.heap.size (fun k_ => ((P1_ k_ ∨ P2_ k_) ∨ w.heap.size ≤ k_) ∧ some k_ ≠ (v630 : Value).ownBlock ∧ some k_ ≠ (v638 : Value).ownBlock ∧ some k_ ≠ (v14 : Value).ownBlock ∧ k_ ≠ gb618 ∧ k_ ≠ gb623) u12 x12_1) ∧ Aside0 (Kd.R (Kd.int .u8) 5 w' w.heap.size (fun k_ => (w.heap.size ≤ k_)) v14 x14_2) ∧ Aside0 (w'.heap[gb618]? = some (.cells #[.int .u8 a0_0, .int .u8 a0_1, .int .u8 a0_2] 38 (0, 0))) ∧ Aside0 (w'.heap[gb623]? = some (.cells #[.int .i64 t620, .int .i64 t621, .int .i64 t622] 23 (0, 0))) ∧ Aside0 (Below w.heap.size w w'))
           case atStart => exact ⟨(([] : List Int)), (0), sd_, H', ⟨Nat.le_refl _⟩, ⟨by (with_reducible repeat (first | apply Kd.V_alloc | apply Kd.V_drewN | apply Kd.V_drew)); exact Kd.V_mono HO_1.out (fun _ hk => ⟨hk.1.1, ⟨hk.1.2.2.1, ⟨hk.2, ⟨hk.1.2.1, ⟨(by simp [Value.ownBlock]), ⟨hk.1.2.2.2.1, hk.1.2.2.2.2⟩⟩⟩⟩⟩⟩)⟩, ⟨by (with_reducible repeat (first | apply Kd.V_alloc | apply Kd.V_drewN | apply Kd.V_drew)); exact Kd.V_mono HO_2.out (fun _ hk => ⟨hk.1.1, ⟨hk.1.2.2.1, ⟨hk.2, ⟨hk.1.2.1, ⟨(by simp [Value.ownBlock]), ⟨hk.1.2.2.2.1, hk.1.2.2.2.2⟩⟩⟩⟩⟩⟩)⟩, ⟨by (with_reducible repeat (first | apply Kd.N_alloc | apply Kd.N_drewN | apply Kd.N_drew)); exact Kd.N_mono HO631.out (fun _ hk => ⟨hk.1.1, ⟨hk.2, ⟨hk.1.2.1, ⟨(by simp [Value.ownBlock]), ⟨hk.1.2.2.1, hk.1.2.2.2⟩⟩⟩⟩⟩)⟩, ⟨by (with_reducible repeat (first | apply Kd.N_alloc | apply Kd.N_drewN | apply Kd.N_drew)); exact Kd.N_mono HO639.out (fun _ hk => ⟨hk.1, ⟨hk.2.2.1, ⟨hk.2.1, ⟨(by simp [Value.ownBlock]), ⟨hk.2.2.2.1, hk.2.2.2.2⟩⟩⟩⟩⟩)⟩, ⟨by (with_reducible repeat (first | apply Kd.N_alloc | apply Kd.N_drewN | apply Kd.N_drew)); exact Kd.N_mono HO_12.out (fun _ hk => ⟨hk.1.1, ⟨hk.1.2.1, ⟨hk.2, ⟨(by simp [Value.ownBlock]), ⟨hk.1.2.2.1, hk.1.2.2.2⟩⟩⟩⟩⟩)⟩, ⟨by first | exact Kd.R_nil _ _ _ _ _ | exact Kd.N_nil _ _ _ _ _ | exact Kd.V_nil _ _ _ _ _ | exact Kd.Q_nil _ _ _ _ _ | exact Kd.S_nil _ _ _ _ _⟩, ⟨bk_⟩, ⟨bk_⟩, ⟨bl_⟩⟩
           case round =>
            clear H'
            try clear c1
            try clear c2
            try clear p2
            try clear q2
            try clear c3
            try clear q3
            try clear c5
            try clear p6
            try clear c8
            try clear c8b0
            try clear c8b1
            try clear c14
            try clear c15
            try clear c16
            try clear c16b0
            try clear c18
            try clear c18b0
            try clear c18b1
            try clear c19
            try clear c19b0
            try clear c19b1
            try clear c20
            try clear c20b0
            try clear c20b1
            try clear c21
            try clear c22
            try clear c22b0
            try clear c23
            try clear c23b0
            try clear c24
            try clear c24b0
            try clear c24b1
            try clear c25
            try clear c26
            try clear c28
            try clear q28
            try clear c30
            try clear q30
            try clear hcz11_0
            try clear hcz11_1
            try clear hcz11_2
            try clear hcz15_0
            try clear hcz15_1
            try clear hcz15_2
            try clear hcz27_0
            try clear hcz27_1
            try clear hcz27_2
            try clear hfz11_0
            try clear hfz11_1
            try clear hfz11_2
            try clear hfz15_0
            try clear hfz15_1
            try clear hfz15_2
            try clear hfz27_0
            try clear hfz27_1
            try clear hfz27_2
            try clear p2
            try clear p6
            try clear q028
            try clear q030
            try clear q28
            try clear q30
            obtain ⟨x14_2, x15_2, rfl, HA, HK2, HO_1, HO_2, HO_10, HO_11, HO_12, HO_14, BK618, BK623, HB⟩ := hrel
            cases gk with
            | zero => exact absurd HA.out (by simp [gambrellaw11_CodecLinear.l1])
            | succ k2 =>
             have H := HA.out
             clear HA
             simp only [gambrellaw11_CodecLinear.l1] at H
             by_cases c32 : x15_2 < (wrap64 ((wrap64 (Int.tdiv (wrap64 ((ji7) / t621)) 2)) * 2))
             ·rw [if_pos c32] at H
              have c32b0 : decide (x15_2 < (wrap64 ((wrap64 (Int.tdiv (wrap64 ((ji7) / t621)) 2)) * 2))) = true := decide_eq_true c32
              clear c32
              obtain ⟨ji33, hji33⟩ : ∃ j_ : Int, (wrap64 ((wrap64 (x13_1 * (wrap64 ((wrap64 (Int.tdiv (wrap64 ((ji7) / t621)) 2)) * 2)))) + x15_2)) = j_ := ⟨_, rfl⟩
              replace H : (if 0 ≤ (ji33) then (if (ji33) < (l1.length : Int) then (if (ji33) < (l2.length : Int) then (if x14_2.length < 140737488355328 then (gambrellaw11_CodecLinear.l1 k2 l1 l2 t619 (wrap64 ((wrap64 (Int.tdiv (wrap64 ((ji7) / t621)) 2)) * 2)) y629 y637 x12_1 x13_1 (x14_2 ++ [Go.bits .xor .u8 (rd l1 (ji33)) (rd l2 (ji33))]) (wrap64 (x15_2 + 1)) t620 t621 t622) else (none)) else (none)) else (none)) else (none)) = some r := by first | (rw [hji33] at H; exact H) | (simp only [hji33] at H ⊢; exact H)
              have hji33w : (IntKind.i64.wrap ((wrap64 (x13_1 * (wrap64 ((wrap64 (Int.tdiv (wrap64 ((ji7) / t621)) 2)) * 2)))) + x15_2)) = ji33 := (i64_w _).trans hji33
              (try (have hji33z := hji33; rw [hji17] at hji33z; have hji33wz := (i64_w _).trans hji33z))
              by_cases c34 : 0 ≤ (ji33)
              ·rw [if_pos c34] at H
               have c34b0 : decide (0 ≤ (ji33)) = true := decide_eq_true c34
               clear c34
               by_cases c35 : (ji33) < (l1.length : Int)
               ·rw [if_pos c35] at H
                have c35b0 : decide ((ji33) < (l1.length : Int)) = true := decide_eq_true c35
                clear c35
                by_cases c36 : (ji33) < (l2.length : Int)
                ·rw [if_pos c36] at H
                 have c36b0 : decide ((ji33) < (l2.length : Int)) = true := decide_eq_true c36
                 clear c36
                 by_cases c37 : x14_2.length < 140737488355328
                 ·rw [if_pos c37] at H
                  have LMc37 := Aside0.mk c37
                  clear c37
                  obtain ⟨y642, hy642⟩ : ∃ y_ : List Int, y_ = (x14_2 ++ [Go.bits .xor .u8 (rd l1 (ji33)) (rd l2 (ji33))]) := ⟨_, rfl⟩
                  replace H : (gambrellaw11_CodecLinear.l1 k2 l1 l2 t619 (wrap64 ((wrap64 (Int.tdiv (wrap64 ((ji7) / t621)) 2)) * 2)) y629 y637 x12_1 x13_1 y642 (wrap64 (x15_2 + 1)) t620 t621 t622) = some r := by first | (rw [hy642]; with_reducible exact H) | (have H2_ := (Option.bind_some _ _).symm.trans H; rw [hy642]; with_reducible exact H2_) | (have H2_ := (Option.bind_some _ _).symm.trans H; with_reducible exact H2_) | with_reducible exact H | (rw [hy642]; exact H) | exact H
                  have Ny642 := Aside0.mk hy642
                  clear hy642
                  have H' := Aside0.mk H
                  clear H
                  try go_wp2
                  have n0_ := Aside0.mk (Kd.V_drew HO_1.out)
                  have n1_ := Aside0.mk (Kd.V_drew HO_2.out)
                  have n2_ := Aside0.mk (Kd.N_drew HO_10.out)
                  have n3_ := Aside0.mk (Kd.N_drew HO_11.out)
                  have n4_ := Aside0.mk (Kd.N_drew HO_12.out)
                  have n5_ := Aside0.mk (Kd.R_drew HO_14.out)
                  have n6_ := Aside0.mk (blk_drew BK618.out)
                  have n7_ := Aside0.mk (blk_drew BK623.out)
                  have n8_ := Aside0.mk (below_drew1 HB.out)
                  clear HO_1
                  clear HO_2
                  clear HO_10
                  clear HO_11
                  clear HO_12
                  clear HO_14
                  clear BK618
                  clear BK623
                  clear HB
                  have HO_1 := n0_
                  have HO_2 := n1_
                  have HO_10 := n2_
                  have HO_11 := n3_
                  have HO_12 := n4_
                  have HO_14 := n5_
                  have BK618 := n6_
                  have BK623 := n7_
                  have HB := n8_
                  clear n0_ n1_ n2_ n3_ n4_ n5_ n6_ n7_ n8_
                  have p640 : 0 ≤ ((ji33) : Int) := of_decide_eq_true as_
                  have q640 : (ji33) < (l1.length : Int) := of_decide_eq_true as_
                  obtain ⟨ad640, e640, hx640_0⟩ := Kd.at_int (Kd.V_reads' HO_1.out).2.2 (ji33) p640 q640
                  cases e640
                  replace p640 := eq_true p640
                  replace q640 := eq_true q640
                  have p641 : 0 ≤ ((ji33) : Int) := of_decide_eq_true as_
                  have q641 : (ji33) < (l2.length : Int) := of_decide_eq_true as_
                  obtain ⟨ad641, e641, hx641_0⟩ := Kd.at_int (Kd.V_reads' HO_2.out).2.2 (ji33) p641 q641
                  cases e641
                  replace p641 := eq_true p641
                  replace q641 := eq_true q641
                  refine start_ (n := 21) (S := fun w' => w'.cell? (ad640.add ((ji33)).toNat) = some (.int .u8 (rd l1 (ji33))) ∧ w'.cell? (ad641.add ((ji33)).toNat) = some (.int .u8 (rd l2 (ji33)))) (ds := [18, 19]) (bA 21 0) kr_ rfl rfl ⟨hx640_0, hx641_0⟩ (fun hHeld => ?_); refine with_tabW gambrellaw11_CodecLinear.tab16 gambrellaw11_CodecLinear.bits16 (fun HT_ HW_ => ?_)
                  generalize wr.drew = w38 at HO_1 HO_2 HO_10 HO_11 HO_12 HO_14 BK618 BK623 HB hx640_0 hx641_0 hHeld ⊢
                  refine pv_ 0 72 1 HT_ ?_
                  refine pv_ 1 73 3 HT_ ?_
                  refine pv_ 2 74 7 HT_ ?_
                  refine pv_ 3 75 15 HT_ ?_
                  refine pv_ 4 76 31 HT_ ?_
                  refine pv_ 5 77 63 HT_ ?_
                  refine pv_ 6 78 127 HT_ ?_
                  refine pv_ 7 79 255 HT_ ?_
                  refine pv_ 9 81 767 HT_ ?_
                  refine pv_ 10 82 1791 HT_ ?_
                  refine pv_ 11 83 3839 HT_ ?_
                  refine pv_ 12 84 7935 HT_ ?_
                  refine pv_ 13 85 16127 HT_ ?_
                  refine pv_ 14 86 32511 HT_ ?_
                  refine pv_ 15 87 65279 HT_ ?_
                  refine tw_ 8 80 65535 HT_ HW_ hHeld ?_
                  refine tw_ 16 88 131071 HT_ HW_ hHeld ?_
                  refine pv_ 17 89 262143 HT_ ?_
                  refine last_ (i := 18) (N := some 90) (bA 21 524287) rfl rfl (one_of HT_.out kr_) (by decide) (fun K hK => ?_)
                  refine value_ (w1 := ?_) (v := ?_) (by rfl) rfl ?_ ?_
                  rotate_left 2
                  ·go_simp
                   constructor
                   ·rfl
                   ·rfl
                  refine hK.out _ _ ?_
                  clear hK K
                  refine norm_ (a' := ?_) ?_ ?_
                  rotate_left
                  ·show Act.put _ (some 90) _ = _
                   simp only [Act.put, List.setIfInBounds_toArray, List.set_cons_zero, List.set_cons_succ, i64_w, i32_w]
                   rfl
                  refine last_ (i := 19) (N := some 91) (bA 21 1048575) rfl rfl (one_of HT_.out kr_) (by decide) (fun K hK => ?_)
                  refine Kd.R_append_step (Kd.int .u8) (w0 := w) w.heap.size (by rfl) (.tmp 72) (.tmp 90) 34 5 (.int .u8 0) 1 rfl Tryz.underlying34 info5 rfl (by decide) (by omega) u14 x14_2 (Go.bits .xor .u8 (rd l1 (ji33)) (rd l2 (ji33))) [.int .u8 (Go.bits .xor .u8 (rd l1 (ji33)) (rd l2 (ji33)))] (fun k_ => (w.heap.size ≤ k_)) (fun _ => False) rfl rfl ?aP (fun _ hk => hk.elim) ?aF ?aO ?aB ?aS ?aL ?_
                  (case aP => exact rfl)
                  (case aB => exact bl_)
                  (case aF => exact (fun k_ hk => (Nat.le_trans (below_size bl_) hk)))
                  (case aO => exact (by (with_reducible repeat (first | apply Kd.R_alloc | apply Kd.R_drewN | apply Kd.R_drew)); exact HO_14.out))
                  (case aS => exact (below_size bl_))
                  (case aL => have := LMc37.out; omega)
                  intro v643 w39 ho hb hg hat
                  rw [← Ny642.out] at ho
                  have n0_ := Aside0.mk (Kd.V_afterv (ok := (fun k_ => ((P1_ k_ ∨ P2_ k_) ∨ w.heap.size ≤ k_) ∧ some k_ ≠ (v630 : Value).ownBlock ∧ some k_ ≠ (v638 : Value).ownBlock ∧ some k_ ≠ (u12 : Value).ownBlock ∧ k_ ≠ gb618 ∧ k_ ≠ gb623)) (by (with_reducible repeat (first | apply Kd.V_alloc | apply Kd.V_drewN | apply Kd.V_drew)); exact Kd.V_mono HO_1.out (fun _ hk => ⟨⟨hk.1, ⟨hk.2.1, ⟨hk.2.2.1, ⟨hk.2.2.2.1, ⟨hk.2.2.2.2.2.1, hk.2.2.2.2.2.2⟩⟩⟩⟩⟩, hk.2.2.2.2.1⟩)) hg hat)
                  have n1_ := Aside0.mk (Kd.V_afterv (ok := (fun k_ => ((P1_ k_ ∨ P2_ k_) ∨ w.heap.size ≤ k_) ∧ some k_ ≠ (v630 : Value).ownBlock ∧ some k_ ≠ (v638 : Value).ownBlock ∧ some k_ ≠ (u12 : Value).ownBlock ∧ k_ ≠ gb618 ∧ k_ ≠ gb623)) (by (with_reducible repeat (first | apply Kd.V_alloc | apply Kd.V_drewN | apply Kd.V_drew)); exact Kd.V_mono HO_2.out (fun _ hk => ⟨⟨hk.1, ⟨hk.2.1, ⟨hk.2.2.1, ⟨hk.2.2.2.1, ⟨hk.2.2.2.2.2.1, hk.2.2.2.2.2.2⟩⟩⟩⟩⟩, hk.2.2.2.2.1⟩)) hg hat)
                  have n2_ := Aside0.mk (Kd.N_afterv (ok := (fun k_ => ((P1_ k_ ∨ P2_ k_) ∨ w.heap.size ≤ k_) ∧ some k_ ≠ (v638 : Value).ownBlock ∧ some k_ ≠ (u12 : Value).ownBlock ∧ k_ ≠ gb618 ∧ k_ ≠ gb623)) (by (with_reducible repeat (first | apply Kd.N_alloc | apply Kd.N_drewN | apply Kd.N_drew)); exact Kd.N_mono HO_10.out (fun _ hk => ⟨⟨hk.1, ⟨hk.2.1, ⟨hk.2.2.1, ⟨hk.2.2.2.2.1, hk.2.2.2.2.2⟩⟩⟩⟩, hk.2.2.2.1⟩)) hg hat)
                  have n3_ := Aside0.mk (Kd.N_afterv (ok := (fun k_ => ((P1_ k_ ∨ P2_ k_) ∨ w.heap.size ≤ k_) ∧ some k_ ≠ (v630 : Value).ownBlock ∧ some k_ ≠ (u12 : Value).ownBlock ∧ k_ ≠ gb618 ∧ k_ ≠ gb623)) (by (with_reducible repeat (first | apply Kd.N_alloc | apply Kd.N_drewN | apply Kd.N_drew)); exact Kd.N_mono HO_11.out (fun _ hk => ⟨⟨hk.1, ⟨hk.2.1, ⟨hk.2.2.1, ⟨hk.2.2.2.2.1, hk.2.2.2.2.2⟩⟩⟩⟩, hk.2.2.2.1⟩)) hg hat)
                  have n4_ := Aside0.mk (Kd.N_afterv (ok := (fun k_ => ((P1_ k_ ∨ P2_ k_) ∨ w.heap.size ≤ k_) ∧ some k_ ≠ (v630 : Value).ownBlock ∧ some k_ ≠ (v638 : Value).ownBlock ∧ k_ ≠ gb618 ∧ k_ ≠ gb623)) (by (with_reducible repeat (first | apply Kd.N_alloc | apply Kd.N_drewN | apply Kd.N_drew)); exact Kd.N_mono HO_12.out (fun _ hk => ⟨⟨hk.1, ⟨hk.2.1, ⟨hk.2.2.1, ⟨hk.2.2.2.2.1, hk.2.2.2.2.2⟩⟩⟩⟩, hk.2.2.2.1⟩)) hg hat)
                  have n5_ := Aside0.mk (blk_grown (g := gb618) (o := .cells #[.int .u8 a0_0, .int .u8 a0_1, .int .u8 a0_2] 38 (0, 0)) bk_ hg (Kd.R_ne HO_14.out BK618.out (by decide)))
                  have n6_ := Aside0.mk (blk_grown (g := gb623) (o := .cells #[.int .i64 t620, .int .i64 t621, .int .i64 t622] 23 (0, 0)) bk_ hg (Kd.R_ne HO_14.out BK623.out (by decide)))
                  have n7_ := Aside0.mk (hb)
                  have n8_ := Aside0.mk (ho)
                  clear HO_1
                  clear HO_2
                  clear HO_10
                  clear HO_11
                  clear HO_12
                  clear BK618
                  clear BK623
                  clear HB
                  clear HO_14
                  have HO_1 := n0_
                  have HO_2 := n1_
                  have HO_10 := n2_
                  have HO_11 := n3_
                  have HO_12 := n4_
                  have BK618 := n5_
                  have BK623 := n6_
                  have HB := n7_
                  have HO644 := n8_
                  clear n0_ n1_ n2_ n3_ n4_ n5_ n6_ n7_ n8_
                  clear ho hb hg hat
                  refine hK.out _ _ ?_
                  clear hK K
                  refine norm_ (a' := ?_) ?_ ?_
                  rotate_left
                  ·show Act.put _ (some 91) _ = _
                   simp only [Act.put, List.setIfInBounds_toArray, List.set_cons_zero, List.set_cons_succ, i64_w, i32_w]
                   rfl
                  refine pv_ 20 14 2097151 HT_ ?_
                  refine done_ (done_of HT_.out kr_) ?_
                  try go_wp2
                  (first | go_roundg k2 | (subst hji6; go_roundg k2) | (subst hji7; go_roundg k2))
                  case measure => have := HK1.out; have := HK2.out; omega
                  case rel => exact ⟨(y642), (wrap64 (x15_2 + 1)), sd_, H', ⟨by have := HK1.out; have := HK2.out; omega⟩, ⟨by (with_reducible repeat (first | apply Kd.V_alloc | apply Kd.V_drewN | apply Kd.V_drew)); exact Kd.V_mono HO_1.out (fun _ hk => ⟨hk.1.1, ⟨hk.1.2.1, ⟨hk.1.2.2.1, ⟨hk.1.2.2.2.1, ⟨hk.2, ⟨hk.1.2.2.2.2.1, hk.1.2.2.2.2.2⟩⟩⟩⟩⟩⟩)⟩, ⟨by (with_reducible repeat (first | apply Kd.V_alloc | apply Kd.V_drewN | apply Kd.V_drew)); exact Kd.V_mono HO_2.out (fun _ hk => ⟨hk.1.1, ⟨hk.1.2.1, ⟨hk.1.2.2.1, ⟨hk.1.2.2.2.1, ⟨hk.2, ⟨hk.1.2.2.2.2.1, hk.1.2.2.2.2.2⟩⟩⟩⟩⟩⟩)⟩, ⟨by (with_reducible repeat (first | apply Kd.N_alloc | apply Kd.N_drewN | apply Kd.N_drew)); exact Kd.N_mono HO_10.out (fun _ hk => ⟨hk.1.1, ⟨hk.1.2.1, ⟨hk.1.2.2.1, ⟨hk.2, ⟨hk.1.2.2.2.1, hk.1.2.2.2.2⟩⟩⟩⟩⟩)⟩, ⟨by (with_reducible repeat (first | apply Kd.N_alloc | apply Kd.N_drewN | apply Kd.N_drew)); exact Kd.N_mono HO_11.out (fun _ hk => ⟨hk.1.1, ⟨hk.1.2.1, ⟨hk.1.2.2.1, ⟨hk.2, ⟨hk.1.2.2.2.1, hk.1.2.2.2.2⟩⟩⟩⟩⟩)⟩, ⟨by (with_reducible repeat (first | apply Kd.N_alloc | apply Kd.N_drewN | apply Kd.N_drew)); exact Kd.N_mono HO_12.out (fun _ hk => ⟨hk.1.1, ⟨hk.1.2.1, ⟨hk.1.2.2.1, ⟨hk.2, ⟨hk.1.2.2.2.1, hk.1.2.2.2.2⟩⟩⟩⟩⟩)⟩, ⟨by (with_reducible repeat (first | apply Kd.R_alloc | apply Kd.R_drewN | apply Kd.R_drew)); exact HO644.out⟩, ⟨bk_⟩, ⟨bk_⟩, ⟨bl_⟩⟩
                 ·rw [if_neg c37] at H
                  exact absurd H (by simp)
                ·rw [if_neg c36] at H
                 exact absurd H (by simp)
               ·rw [if_neg c35] at H
                exact absurd H (by simp)
              ·rw [if_neg c34] at H
               exact absurd H (by simp)
             ·rw [if_neg c32] at H
              have c32b0 : decide (x15_2 < (wrap64 ((wrap64 (Int.tdiv (wrap64 ((ji7) / t621)) 2)) * 2))) = false := decide_eq_false c32
              clear c32
              by_cases c40 : x12_1.length < 5864062014805
              ·rw [if_pos c40] at H
               have LMc40 := Aside0.mk c40
               clear c40
               obtain ⟨y645, hy645⟩ : ∃ y_ : List (List Int), y_ = (x12_1 ++ [x14_2]) := ⟨_, rfl⟩
               replace H : (gambrellaw11_CodecLinear.l0 k2 l1 l2 t619 (wrap64 ((wrap64 (Int.tdiv (wrap64 ((ji7) / t621)) 2)) * 2)) y629 y637 y645 (wrap64 (x13_1 + 1)) t620 t621 t622) = some r := by first | (rw [hy645]; with_reducible exact H) | (have H2_ := (Option.bind_some _ _).symm.trans H; rw [hy645]; with_reducible exact H2_) | (have H2_ := (Option.bind_some _ _).symm.trans H; with_reducible exact H2_) | with_reducible exact H | (rw [hy645]; exact H) | exact H
               have Ny645 := Aside0.mk hy645
               clear hy645
               have H' := Aside0.mk H
               clear H
               obtain ⟨Ao42, co42, eo42⟩ := Kd.R_slice HO_14.out
               subst eo42
               go_wp2_with (first | ((with_reducible refine gate_builtin (b := .append) (xs := #[.tmp 92, .tmp 94]) rfl ?_); (try (refine gate_guard (by rfl) ?_; dsimp only)); at_builtin; refine Kd.N_append (Kd.slice 5 (Kd.int .u8)) (w0 := w) w.heap.size rfl (.tmp 92) (.tmp 94) 24 34 (.slice none 0 0) 24 rfl Tryz.underlying24 info34 rfl (by decide) (by omega) u12 x12_1 x14_2 [.slice Ao42 x14_2.length co42] (fun k_ => ((P1_ k_ ∨ P2_ k_) ∨ w.heap.size ≤ k_) ∧ some k_ ≠ (v630 : Value).ownBlock ∧ some k_ ≠ (v638 : Value).ownBlock ∧ k_ ≠ gb618 ∧ k_ ≠ gb623) (fun k_ => ((fun k_ => ((P1_ k_ ∨ P2_ k_) ∨ w.heap.size ≤ k_) ∧ some k_ ≠ (v630 : Value).ownBlock ∧ some k_ ≠ (v638 : Value).ownBlock ∧ k_ ≠ gb618 ∧ k_ ≠ gb623)) k_ ∧ some k_ ≠ (u12 : Value).ownBlock) rfl rfl ?aP (fun _ hk => hk) ?aF ?aO ?aB ?aS ?aL ?_; (case aP => exact (Kd.FK_slice_mk (Kd.R_reads' (Kd.R_mono (ok' := (fun k_ => ((fun k_ => ((P1_ k_ ∨ P2_ k_) ∨ w.heap.size ≤ k_) ∧ some k_ ≠ (v630 : Value).ownBlock ∧ some k_ ≠ (v638 : Value).ownBlock ∧ k_ ≠ gb618 ∧ k_ ≠ gb623)) k_ ∧ some k_ ≠ (u12 : Value).ownBlock)) (Kd.R_types (Kd.R_types (Kd.R_apart' (Kd.R_apart' (Kd.R_apart' (HO_14.out) (Kd.N_typed HO_10.out) (by decide)) (Kd.N_typed HO_11.out) (by decide)) (Kd.N_typed HO_12.out) (by decide)) BK618.out (by decide)) BK623.out (by decide)) (fun k_ hk => ⟨⟨(.inr (hk.1.1.1.1.1)), ⟨hk.1.1.1.1.2, ⟨hk.1.1.1.2, ⟨hk.1.2, hk.2⟩⟩⟩⟩, hk.1.1.2⟩))).2.1 (Kd.R_F (Kd.R_mono (ok' := (fun k_ => ((fun k_ => ((P1_ k_ ∨ P2_ k_) ∨ w.heap.size ≤ k_) ∧ some k_ ≠ (v630 : Value).ownBlock ∧ some k_ ≠ (v638 : Value).ownBlock ∧ k_ ≠ gb618 ∧ k_ ≠ gb623)) k_ ∧ some k_ ≠ (u12 : Value).ownBlock)) (Kd.R_types (Kd.R_types (Kd.R_apart' (Kd.R_apart' (Kd.R_apart' (HO_14.out) (Kd.N_typed HO_10.out) (by decide)) (Kd.N_typed HO_11.out) (by decide)) (Kd.N_typed HO_12.out) (by decide)) BK618.out (by decide)) BK623.out (by decide)) (fun k_ hk => ⟨⟨(.inr (hk.1.1.1.1.1)), ⟨hk.1.1.1.1.2, ⟨hk.1.1.1.2, ⟨hk.1.2, hk.2⟩⟩⟩⟩, hk.1.1.2⟩))))); (case aB => exact bl_); (case aF => exact (fun k_ hk => ⟨(.inr (Nat.le_trans (below_size bl_) hk)), Kd.fresh' (Kd.N_lt (by (with_reducible repeat (first | apply Kd.N_alloc | apply Kd.N_drewN | apply Kd.N_drew)); exact HO_10.out)) k_ hk, Kd.fresh' (Kd.N_lt (by (with_reducible repeat (first | apply Kd.N_alloc | apply Kd.N_drewN | apply Kd.N_drew)); exact HO_11.out)) k_ hk, Kd.freshB (g := gb618) (o := .cells #[.int .u8 a0_0, .int .u8 a0_1, .int .u8 a0_2] 38 (0, 0)) bk_ k_ hk, Kd.freshB (g := gb623) (o := .cells #[.int .i64 t620, .int .i64 t621, .int .i64 t622] 23 (0, 0)) bk_ k_ hk⟩)); (case aO => exact (by (with_reducible repeat (first | apply Kd.N_alloc | apply Kd.N_drewN | apply Kd.N_drew)); exact Kd.N_mono HO_12.out (fun _ hk => ⟨hk.1, ⟨hk.2.1, ⟨hk.2.2.1, ⟨hk.2.2.2.2.1, hk.2.2.2.2.2⟩⟩⟩⟩))); (case aS => exact (below_size bl_)); (case aL => have := LMc40.out; omega); intro v646 w41 ho hb hg hat; rw [← Ny645.out] at ho; have n0_ := Aside0.mk (Kd.V_afterv (ok := (fun k_ => ((P1_ k_ ∨ P2_ k_) ∨ w.heap.size ≤ k_) ∧ some k_ ≠ (v630 : Value).ownBlock ∧ some k_ ≠ (v638 : Value).ownBlock ∧ some k_ ≠ (.slice Ao42 x14_2.length co42 : Value).ownBlock ∧ k_ ≠ gb618 ∧ k_ ≠ gb623)) (by (with_reducible repeat (first | apply Kd.V_alloc | apply Kd.V_drewN | apply Kd.V_drew)); exact Kd.V_mono HO_1.out (fun _ hk => ⟨⟨hk.1, ⟨hk.2.1, ⟨hk.2.2.1, ⟨hk.2.2.2.2.1, ⟨hk.2.2.2.2.2.1, hk.2.2.2.2.2.2⟩⟩⟩⟩⟩, hk.2.2.2.1⟩)) hg hat); have n1_ := Aside0.mk (Kd.V_afterv (ok := (fun k_ => ((P1_ k_ ∨ P2_ k_) ∨ w.heap.size ≤ k_) ∧ some k_ ≠ (v630 : Value).ownBlock ∧ some k_ ≠ (v638 : Value).ownBlock ∧ some k_ ≠ (.slice Ao42 x14_2.length co42 : Value).ownBlock ∧ k_ ≠ gb618 ∧ k_ ≠ gb623)) (by (with_reducible repeat (first | apply Kd.V_alloc | apply Kd.V_drewN | apply Kd.V_drew)); exact Kd.V_mono HO_2.out (fun _ hk => ⟨⟨hk.1, ⟨hk.2.1, ⟨hk.2.2.1, ⟨hk.2.2.2.2.1, ⟨hk.2.2.2.2.2.1, hk.2.2.2.2.2.2⟩⟩⟩⟩⟩, hk.2.2.2.1⟩)) hg hat); have n2_ := Aside0.mk (Kd.N_afterv (ok := (fun k_ => ((P1_ k_ ∨ P2_ k_) ∨ w.heap.size ≤ k_) ∧ some k_ ≠ (v638 : Value).ownBlock ∧ some k_ ≠ (.slice Ao42 x14_2.length co42 : Value).ownBlock ∧ k_ ≠ gb618 ∧ k_ ≠ gb623)) (by (with_reducible repeat (first | apply Kd.N_alloc | apply Kd.N_drewN | apply Kd.N_drew)); exact Kd.N_mono HO_10.out (fun _ hk => ⟨⟨hk.1, ⟨hk.2.1, ⟨hk.2.2.2.1, ⟨hk.2.2.2.2.1, hk.2.2.2.2.2⟩⟩⟩⟩, hk.2.2.1⟩)) hg hat); have n3_ := Aside0.mk (Kd.N_afterv (ok := (fun k_ => ((P1_ k_ ∨ P2_ k_) ∨ w.heap.size ≤ k_) ∧ some k_ ≠ (v630 : Value).ownBlock ∧ some k_ ≠ (.slice Ao42 x14_2.length co42 : Value).ownBlock ∧ k_ ≠ gb618 ∧ k_ ≠ gb623)) (by (with_reducible repeat (first | apply Kd.N_alloc | apply Kd.N_drewN | apply Kd.N_drew)); exact Kd.N_mono HO_11.out (fun _ hk => ⟨⟨hk.1, ⟨hk.2.1, ⟨hk.2.2.2.1, ⟨hk.2.2.2.2.1, hk.2.2.2.2.2⟩⟩⟩⟩, hk.2.2.1⟩)) hg hat); have n4_ := Aside0.mk (blk_grown (g := gb618) (o := .cells #[.int .u8 a0_0, .int .u8 a0_1, .int .u8 a0_2] 38 (0, 0)) bk_ hg (Kd.N_ne HO_12.out BK618.out (by decide))); have n5_ := Aside0.mk (blk_grown (g := gb623) (o := .cells #[.int .i64 t620, .int .i64 t621, .int .i64 t622] 23 (0, 0)) bk_ hg (Kd.N_ne HO_12.out BK623.out (by decide))); have n6_ := Aside0.mk (hb); have n7_ := Aside0.mk (ho); clear HO_1; clear HO_2; clear HO_10; clear HO_11; clear BK618; clear BK623; clear HB; clear HO_12; clear HO_14; have HO_1 := n0_; have HO_2 := n1_; have HO_10 := n2_; have HO_11 := n3_; have BK618 := n4_; have BK623 := n5_; have HB := n6_; have HO647 := n7_; clear n0_ n1_ n2_ n3_ n4_ n5_ n6_ n7_; clear ho hb hg hat))
               (first | go_roundg k2 | (subst hji6; go_roundg k2) | (subst hji7; go_roundg k2))
               case measure => have := HK1.out; have := HK2.out; omega
               case rel => exact ⟨(y629), (y637), (y645), (wrap64 (x13_1 + 1)), sd_, H', ⟨by have := HK1.out; have := HK2.out; omega⟩, ⟨by (with_reducible repeat (first | apply Kd.V_alloc | apply Kd.V_drewN | apply Kd.V_drew)); exact Kd.V_mono HO_1.out (fun _ hk => ⟨hk.1.1, ⟨hk.1.2.1, ⟨hk.1.2.2.1, ⟨hk.2, ⟨hk.1.2.2.2.2.1, hk.1.2.2.2.2.2⟩⟩⟩⟩⟩)⟩, ⟨by (with_reducible repeat (first | apply Kd.V_alloc | apply Kd.V_drewN | apply Kd.V_drew)); exact Kd.V_mono HO_2.out (fun _ hk => ⟨hk.1.1, ⟨hk.1.2.1, ⟨hk.1.2.2.1, ⟨hk.2, ⟨hk.1.2.2.2.2.1, hk.1.2.2.2.2.2⟩⟩⟩⟩⟩)⟩, ⟨by (with_reducible repeat (first | apply Kd.N_alloc | apply Kd.N_drewN | apply Kd.N_drew)); exact Kd.N_mono HO_10.out (fun _ hk => ⟨hk.1.1, ⟨hk.1.2.1, ⟨hk.2, ⟨hk.1.2.2.2.1, hk.1.2.2.2.2⟩⟩⟩⟩)⟩, ⟨by (with_reducible repeat (first | apply Kd.N_alloc | apply Kd.N_drewN | apply Kd.N_drew)); exact Kd.N_mono HO_11.out (fun _ hk => ⟨hk.1.1, ⟨hk.1.2.1, ⟨hk.2, ⟨hk.1.2.2.2.1, hk.1.2.2.2.2⟩⟩⟩⟩)⟩, ⟨by (with_reducible repeat (first | apply Kd.N_alloc | apply Kd.N_drewN | apply Kd.N_drew)); exact HO647.out⟩, ⟨bk_⟩, ⟨bk_⟩, ⟨bl_⟩⟩
              ·rw [if_neg c40] at H
               exact absurd H (by simp)
          ·rw [if_neg c25] at H
           exact absurd H (by simp)
         ·rw [if_neg c24] at H
          exact absurd H (by simp)
        ·rw [if_neg c21] at H
         exact absurd H (by simp)
       ·rw [if_neg c20] at H
        exact absurd H (by simp)
      ·rw [if_neg c19] at H
       exact absurd H (by simp)
     ·rw [if_neg c18] at H
      exact absurd H (by simp)
    ·rw [if_neg c16] at H
     have c16b0 : decide (x13_1 < t621) = false := decide_eq_false c16
     clear c16
     replace H := Option.bind_eq_some_iff.mp H
     obtain ⟨⟨t648, t651⟩, A430, H⟩ := H
     replace H : ((codec_Parity.f k1 t620 t621 t622 x11_1).bind fun bt652 => ((codec_Parity.f k1 t620 t621 t622 x12_1).bind fun bt656 => (if (wrap64 ((wrap64 (t651 + bt652.2)) + bt656.2)) = 0 then (if (t648.length : Int) = t622 then (if (bt652.1.length : Int) = t622 then (gambrellaw11_CodecLinear.j2 k1 t619 (wrap64 ((wrap64 (Int.tdiv (wrap64 ((ji7) / t621)) 2)) * 2)) t648 bt652.1 bt656.1 ((bt656.1.length : Int) != t622) t620 t621 t622) else (gambrellaw11_CodecLinear.j2 k1 t619 (wrap64 ((wrap64 (Int.tdiv (wrap64 ((ji7) / t621)) 2)) * 2)) t648 bt652.1 bt656.1 true t620 t621 t622)) else (gambrellaw11_CodecLinear.j2 k1 t619 (wrap64 ((wrap64 (Int.tdiv (wrap64 ((ji7) / t621)) 2)) * 2)) t648 bt652.1 bt656.1 true t620 t621 t622)) else (gambrellaw11_CodecLinear.j2 k1 t619 (wrap64 ((wrap64 (Int.tdiv (wrap64 ((ji7) / t621)) 2)) * 2)) t648 bt652.1 bt656.1 true t620 t621 t622)))) = some r := H
     have A43 := Aside0.mk A430
     clear A430
     replace H := Option.bind_eq_some_iff.mp H
     obtain ⟨⟨t652, t655⟩, A440, H⟩ := H
     replace H : ((codec_Parity.f k1 t620 t621 t622 x12_1).bind fun bt656 => (if (wrap64 ((wrap64 (t651 + t655)) + bt656.2)) = 0 then (if (t648.length : Int) = t622 then (if (t652.length : Int) = t622 then (gambrellaw11_CodecLinear.j2 k1 t619 (wrap64 ((wrap64 (Int.tdiv (wrap64 ((ji7) / t621)) 2)) * 2)) t648 t652 bt656.1 ((bt656.1.length : Int) != t622) t620 t621 t622) else (gambrellaw11_CodecLinear.j2 k1 t619 (wrap64 ((wrap64 (Int.tdiv (wrap64 ((ji7) / t621)) 2)) * 2)) t648 t652 bt656.1 true t620 t621 t622)) else (gambrellaw11_CodecLinear.j2 k1 t619 (wrap64 ((wrap64 (Int.tdiv (wrap64 ((ji7) / t621)) 2)) * 2)) t648 t652 bt656.1 true t620 t621 t622)) else (gambrellaw11_CodecLinear.j2 k1 t619 (wrap64 ((wrap64 (Int.tdiv (wrap64 ((ji7) / t621)) 2)) * 2)) t648 t652 bt656.1 true t620 t621 t622))) = some r := H
     have A44 := Aside0.mk A440
     clear A440
     replace H := Option.bind_eq_some_iff.mp H
     obtain ⟨⟨t656, t659⟩, A450, H⟩ := H
     replace H : (if (wrap64 ((wrap64 (t651 + t655)) + t659)) = 0 then (if (t648.length : Int) = t622 then (if (t652.length : Int) = t622 then (gambrellaw11_CodecLinear.j2 k1 t619 (wrap64 ((wrap64 (Int.tdiv (wrap64 ((ji7) / t621)) 2)) * 2)) t648 t652 t656 ((t656.length : Int) != t622) t620 t621 t622) else (gambrellaw11_CodecLinear.j2 k1 t619 (wrap64 ((wrap64 (Int.tdiv (wrap64 ((ji7) / t621)) 2)) * 2)) t648 t652 t656 true t620 t621 t622)) else (gambrellaw11_CodecLinear.j2 k1 t619 (wrap64 ((wrap64 (Int.tdiv (wrap64 ((ji7) / t621)) 2)) * 2)) t648 t652 t656 true t620 t621 t622)) else (gambrellaw11_CodecLinear.j2 k1 t619 (wrap64 ((wrap64 (Int.tdiv (wrap64 ((ji7) / t621)) 2)) * 2)) t648 t652 t656 true t620 t621 t622)) = some r := H
     have A45 := Aside0.mk A450
     clear A450
     have HC46 := Aside0.mk H
     clear H
     have hnb47 := NB623_618.out
     have hnc47 := NB618_623.out
     have hcz48_0 : wr.cell? ⟨gb623, 0, none⟩ = some (.int .i64 t620) := (blk_cell BK623.out 0).trans rfl
     have hcz48_1 : wr.cell? ⟨gb623, 1, none⟩ = some (.int .i64 t621) := (blk_cell BK623.out 1).trans rfl
     have hcz48_2 : wr.cell? ⟨gb623, 2, none⟩ = some (.int .i64 t622) := (blk_cell BK623.out 2).trans rfl
     have hfz48_0 := blk_frozen BK623.out 0
     have hfz48_1 := blk_frozen BK623.out 1
     have hfz48_2 := blk_frozen BK623.out 2
     obtain ⟨Ao49, co49, eo49⟩ := Kd.N_slice HO_10.out
     subst eo49
     go_upto_region 21 with (first | ((with_reducible refine gate_callee (f := 17) rfl ?_); refine goesL_ (some 99) rfl rfl Tryz.func17 kr_ rfl #[.agg #[.int .i64 t620, .int .i64 t621, .int .i64 t622], .slice Ao49 x10_1.length co49] rfl ar_ ?_; (with_reducible refine (codec_Parity.calls k1 t620 t621 t622 _ _ x10_1 t648 t651 _ ?side1 ?side2 A43.out).mono ?_); (case side1 => repeat (first | exact (Kd.N_reads' HO_10.out).2.2 | (with_reducible refine Kd.C_alloc ?_ _) | (with_reducible refine Kd.C_drewN ?_ _) | (with_reducible refine Kd.C_drew ?_))); (case side2 => exact (Kd.N_reads' HO_10.out).2.1); rintro e w50 ⟨v649, rfl, ho0, hb⟩; refine ⟨_, rfl, ?_⟩; have n0_ := Aside0.mk (Kd.V_elder' (by (with_reducible repeat (first | apply Kd.V_alloc | apply Kd.V_drewN | apply Kd.V_drew)); exact HO_1.out) (Kd.S_base ho0) hb); have n1_ := Aside0.mk (Kd.V_elder' (by (with_reducible repeat (first | apply Kd.V_alloc | apply Kd.V_drewN | apply Kd.V_drew)); exact HO_2.out) (Kd.S_base ho0) hb); have n2_ := Aside0.mk (Kd.N_elder' (by (with_reducible repeat (first | apply Kd.N_alloc | apply Kd.N_drewN | apply Kd.N_drew)); exact HO_10.out) (Kd.S_base ho0) hb); have n3_ := Aside0.mk (Kd.N_elder' (by (with_reducible repeat (first | apply Kd.N_alloc | apply Kd.N_drewN | apply Kd.N_drew)); exact HO_11.out) (Kd.S_base ho0) hb); have n4_ := Aside0.mk (Kd.N_elder' (by (with_reducible repeat (first | apply Kd.N_alloc | apply Kd.N_drewN | apply Kd.N_drew)); exact HO_12.out) (Kd.S_base ho0) hb); have n5_ := Aside0.mk (Kd.N_lower (Kd.N_mono (ok' := fun k_ => ((P1_ k_ ∨ P2_ k_) ∨ w.heap.size ≤ k_) ∧ some k_ ≠ (.slice Ao49 x10_1.length co49 : Value).ownBlock ∧ some k_ ≠ (u11 : Value).ownBlock ∧ some k_ ≠ (u12 : Value).ownBlock ∧ k_ ≠ gb618 ∧ k_ ≠ gb623) (Kd.S_N (Kd.S_bound ho0)) (fun k_ hk_ => ⟨(.inr (Nat.le_trans (below_size bl_) hk_.2.1)), (Kd.fresh' (Kd.N_lt (by (with_reducible repeat (first | apply Kd.N_alloc | apply Kd.N_drewN | apply Kd.N_drew)); exact HO_10.out)) k_ hk_.2.1), (Kd.fresh' (Kd.N_lt (by (with_reducible repeat (first | apply Kd.N_alloc | apply Kd.N_drewN | apply Kd.N_drew)); exact HO_11.out)) k_ hk_.2.1), (Kd.fresh' (Kd.N_lt (by (with_reducible repeat (first | apply Kd.N_alloc | apply Kd.N_drewN | apply Kd.N_drew)); exact HO_12.out)) k_ hk_.2.1), (Kd.freshB (g := gb618) (o := .cells #[.int .u8 a0_0, .int .u8 a0_1, .int .u8 a0_2] 38 (0, 0)) bk_ k_ hk_.2.1), (Kd.freshB (g := gb623) (o := .cells #[.int .i64 t620, .int .i64 t621, .int .i64 t622] 23 (0, 0)) bk_ k_ hk_.2.1)⟩)) (below_size bl_)); have n6_ := Aside0.mk (blk_below (g := gb618) (o := .cells #[.int .u8 a0_0, .int .u8 a0_1, .int .u8 a0_2] 38 (0, 0)) bk_ hb); have n7_ := Aside0.mk (blk_below (g := gb623) (o := .cells #[.int .i64 t620, .int .i64 t621, .int .i64 t622] 23 (0, 0)) bk_ hb); have n8_ := Aside0.mk (below_step bl_ hb); clear HO_1; clear HO_2; clear HO_10; clear HO_11; clear HO_12; clear BK618; clear BK623; clear HB; have HO_1 := n0_; have HO_2 := n1_; have HO_10 := n2_; have HO_11 := n3_; have HO_12 := n4_; have HO650 := n5_; have BK618 := n6_; have BK623 := n7_; have HB := n8_; clear n0_ n1_ n2_ n3_ n4_ n5_ n6_ n7_ n8_; (try clear hb); (try clear hb2); (try clear hk); (try clear hi); (try clear ho0); have hcz51_0 : w50.cell? ⟨gb623, 0, none⟩ = some (.int .i64 t620) := (blk_cell BK623.out 0).trans rfl; have hcz51_1 : w50.cell? ⟨gb623, 1, none⟩ = some (.int .i64 t621) := (blk_cell BK623.out 1).trans rfl; have hcz51_2 : w50.cell? ⟨gb623, 2, none⟩ = some (.int .i64 t622) := (blk_cell BK623.out 2).trans rfl; have hfz51_0 := blk_frozen BK623.out 0; have hfz51_1 := blk_frozen BK623.out 1; have hfz51_2 := blk_frozen BK623.out 2; obtain ⟨Ao52, co52, eo52⟩ := Kd.N_slice HO_11.out; subst eo52) | ((with_reducible refine gate_callee (f := 17) rfl ?_); refine goesL_ (some 105) rfl rfl Tryz.func17 kr_ rfl #[.agg #[.int .i64 t620, .int .i64 t621, .int .i64 t622], .slice Ao52 x11_1.length co52] rfl ar_ ?_; (with_reducible refine (codec_Parity.calls k1 t620 t621 t622 _ _ x11_1 t652 t655 _ ?side1 ?side2 A44.out).mono ?_); (case side1 => repeat (first | exact (Kd.N_reads' HO_11.out).2.2 | (with_reducible refine Kd.C_alloc ?_ _) | (with_reducible refine Kd.C_drewN ?_ _) | (with_reducible refine Kd.C_drew ?_))); (case side2 => exact (Kd.N_reads' HO_11.out).2.1); rintro e w53 ⟨v653, rfl, ho0, hb⟩; refine ⟨_, rfl, ?_⟩; have n0_ := Aside0.mk (Kd.V_elder' (by (with_reducible repeat (first | apply Kd.V_alloc | apply Kd.V_drewN | apply Kd.V_drew)); exact HO_1.out) (Kd.S_base ho0) hb); have n1_ := Aside0.mk (Kd.V_elder' (by (with_reducible repeat (first | apply Kd.V_alloc | apply Kd.V_drewN | apply Kd.V_drew)); exact HO_2.out) (Kd.S_base ho0) hb); have n2_ := Aside0.mk (Kd.N_elder' (by (with_reducible repeat (first | apply Kd.N_alloc | apply Kd.N_drewN | apply Kd.N_drew)); exact HO_10.out) (Kd.S_base ho0) hb); have n3_ := Aside0.mk (Kd.N_elder' (by (with_reducible repeat (first | apply Kd.N_alloc | apply Kd.N_drewN | apply Kd.N_drew)); exact HO_11.out) (Kd.S_base ho0) hb); have n4_ := Aside0.mk (Kd.N_elder' (by (with_reducible repeat (first | apply Kd.N_alloc | apply Kd.N_drewN | apply Kd.N_drew)); exact HO_12.out) (Kd.S_base ho0) hb); have n5_ := Aside0.mk (Kd.N_elder' (by (with_reducible repeat (first | apply Kd.N_alloc | apply Kd.N_drewN | apply Kd.N_drew)); exact HO650.out) (Kd.S_base ho0) hb); have n6_ := Aside0.mk (Kd.N_lower (Kd.N_mono (ok' := fun k_ => ((P1_ k_ ∨ P2_ k_) ∨ w.heap.size ≤ k_) ∧ some k_ ≠ (.slice Ao49 x10_1.length co49 : Value).ownBlock ∧ some k_ ≠ (.slice Ao52 x11_1.length co52 : Value).ownBlock ∧ some k_ ≠ (u12 : Value).ownBlock ∧ some k_ ≠ (v649 : Value).ownBlock ∧ k_ ≠ gb618 ∧ k_ ≠ gb623) (Kd.S_N (Kd.S_bound ho0)) (fun k_ hk_ => ⟨(.inr (Nat.le_trans (below_size bl_) hk_.2.1)), (Kd.fresh' (Kd.N_lt (by (with_reducible repeat (first | apply Kd.N_alloc | apply Kd.N_drewN | apply Kd.N_drew)); exact HO_10.out)) k_ hk_.2.1), (Kd.fresh' (Kd.N_lt (by (with_reducible repeat (first | apply Kd.N_alloc | apply Kd.N_drewN | apply Kd.N_drew)); exact HO_11.out)) k_ hk_.2.1), (Kd.fresh' (Kd.N_lt (by (with_reducible repeat (first | apply Kd.N_alloc | apply Kd.N_drewN | apply Kd.N_drew)); exact HO_12.out)) k_ hk_.2.1), (Kd.fresh' (Kd.N_lt (by (with_reducible repeat (first | apply Kd.N_alloc | apply Kd.N_drewN | apply Kd.N_drew)); exact HO650.out)) k_ hk_.2.1), (Kd.freshB (g := gb618) (o := .cells #[.int .u8 a0_0, .int .u8 a0_1, .int .u8 a0_2] 38 (0, 0)) bk_ k_ hk_.2.1), (Kd.freshB (g := gb623) (o := .cells #[.int .i64 t620, .int .i64 t621, .int .i64 t622] 23 (0, 0)) bk_ k_ hk_.2.1)⟩)) (below_size bl_)); have n7_ := Aside0.mk (blk_below (g := gb618) (o := .cells #[.int .u8 a0_0, .int .u8 a0_1, .int .u8 a0_2] 38 (0, 0)) bk_ hb); have n8_ := Aside0.mk (blk_below (g := gb623) (o := .cells #[.int .i64 t620, .int .i64 t621, .int .i64 t622] 23 (0, 0)) bk_ hb); have n9_ := Aside0.mk (below_step bl_ hb); clear HO_1; clear HO_2; clear HO_10; clear HO_11; clear HO_12; clear HO650; clear BK618; clear BK623; clear HB; have HO_1 := n0_; have HO_2 := n1_; have HO_10 := n2_; have HO_11 := n3_; have HO_12 := n4_; have HO650 := n5_; have HO654 := n6_; have BK618 := n7_; have BK623 := n8_; have HB := n9_; clear n0_ n1_ n2_ n3_ n4_ n5_ n6_ n7_ n8_ n9_; (try clear hb); (try clear hb2); (try clear hk); (try clear hi); (try clear ho0); have hcz54_0 : w53.cell? ⟨gb623, 0, none⟩ = some (.int .i64 t620) := (blk_cell BK623.out 0).trans rfl; have hcz54_1 : w53.cell? ⟨gb623, 1, none⟩ = some (.int .i64 t621) := (blk_cell BK623.out 1).trans rfl; have hcz54_2 : w53.cell? ⟨gb623, 2, none⟩ = some (.int .i64 t622) := (blk_cell BK623.out 2).trans rfl; have hfz54_0 := blk_frozen BK623.out 0; have hfz54_1 := blk_frozen BK623.out 1; have hfz54_2 := blk_frozen BK623.out 2; obtain ⟨Ao55, co55, eo55⟩ := Kd.N_slice HO_12.out; subst eo55) | ((with_reducible refine gate_callee (f := 17) rfl ?_); refine goesL_ (some 111) rfl rfl Tryz.func17 kr_ rfl #[.agg #[.int .i64 t620, .int .i64 t621, .int .i64 t622], .slice Ao55 x12_1.length co55] rfl ar_ ?_; (with_reducible refine (codec_Parity.calls k1 t620 t621 t622 _ _ x12_1 t656 t659 _ ?side1 ?side2 A45.out).mono ?_); (case side1 => repeat (first | exact (Kd.N_reads' HO_12.out).2.2 | (with_reducible refine Kd.C_alloc ?_ _) | (with_reducible refine Kd.C_drewN ?_ _) | (with_reducible refine Kd.C_drew ?_))); (case side2 => exact (Kd.N_reads' HO_12.out).2.1); rintro e w56 ⟨v657, rfl, ho0, hb⟩; refine ⟨_, rfl, ?_⟩; have n0_ := Aside0.mk (Kd.V_elder' (by (with_reducible repeat (first | apply Kd.V_alloc | apply Kd.V_drewN | apply Kd.V_drew)); exact HO_1.out) (Kd.S_base ho0) hb); have n1_ := Aside0.mk (Kd.V_elder' (by (with_reducible repeat (first | apply Kd.V_alloc | apply Kd.V_drewN | apply Kd.V_drew)); exact HO_2.out) (Kd.S_base ho0) hb); have n2_ := Aside0.mk (Kd.N_elder' (by (with_reducible repeat (first | apply Kd.N_alloc | apply Kd.N_drewN | apply Kd.N_drew)); exact HO_10.out) (Kd.S_base ho0) hb); have n3_ := Aside0.mk (Kd.N_elder' (by (with_reducible repeat (first | apply Kd.N_alloc | apply Kd.N_drewN | apply Kd.N_drew)); exact HO_11.out) (Kd.S_base ho0) hb); have n4_ := Aside0.mk (Kd.N_elder' (by (with_reducible repeat (first | apply Kd.N_alloc | apply Kd.N_drewN | apply Kd.N_drew)); exact HO_12.out) (Kd.S_base ho0) hb); have n5_ := Aside0.mk (Kd.N_elder' (by (with_reducible repeat (first | apply Kd.N_alloc | apply Kd.N_drewN | apply Kd.N_drew)); exact HO650.out) (Kd.S_base ho0) hb); have n6_ := Aside0.mk (Kd.N_elder' (by (with_reducible repeat (first | apply Kd.N_alloc | apply Kd.N_drewN | apply Kd.N_drew)); exact HO654.out) (Kd.S_base ho0) hb); have n7_ := Aside0.mk (Kd.N_lower (Kd.N_mono (ok' := fun k_ => ((P1_ k_ ∨ P2_ k_) ∨ w.heap.size ≤ k_) ∧ some k_ ≠ (.slice Ao49 x10_1.length co49 : Value).ownBlock ∧ some k_ ≠ (.slice Ao52 x11_1.length co52 : Value).ownBlock ∧ some k_ ≠ (.slice Ao55 x12_1.length co55 : Value).ownBlock ∧ some k_ ≠ (v649 : Value).ownBlock ∧ some k_ ≠ (v653 : Value).ownBlock ∧ k_ ≠ gb618 ∧ k_ ≠ gb623) (Kd.S_N (Kd.S_bound ho0)) (fun k_ hk_ => ⟨(.inr (Nat.le_trans (below_size bl_) hk_.2.1)), (Kd.fresh' (Kd.N_lt (by (with_reducible repeat (first | apply Kd.N_alloc | apply Kd.N_drewN | apply Kd.N_drew)); exact HO_10.out)) k_ hk_.2.1), (Kd.fresh' (Kd.N_lt (by (with_reducible repeat (first | apply Kd.N_alloc | apply Kd.N_drewN | apply Kd.N_drew)); exact HO_11.out)) k_ hk_.2.1), (Kd.fresh' (Kd.N_lt (by (with_reducible repeat (first | apply Kd.N_alloc | apply Kd.N_drewN | apply Kd.N_drew)); exact HO_12.out)) k_ hk_.2.1), (Kd.fresh' (Kd.N_lt (by (with_reducible repeat (first | apply Kd.N_alloc | apply Kd.N_drewN | apply Kd.N_drew)); exact HO650.out)) k_ hk_.2.1), (Kd.fresh' (Kd.N_lt (by (with_reducible repeat (first | apply Kd.N_alloc | apply Kd.N_drewN | apply Kd.N_drew)); exact HO654.out)) k_ hk_.2.1), (Kd.freshB (g := gb618) (o := .cells #[.int .u8 a0_0, .int .u8 a0_1, .int .u8 a0_2] 38 (0, 0)) bk_ k_ hk_.2.1), (Kd.freshB (g := gb623) (o := .cells #[.int .i64 t620, .int .i64 t621, .int .i64 t622] 23 (0, 0)) bk_ k_ hk_.2.1)⟩)) (below_size bl_)); have n8_ := Aside0.mk (blk_below (g := gb618) (o := .cells #[.int .u8 a0_0, .int .u8 a0_1, .int .u8 a0_2] 38 (0, 0)) bk_ hb); have n9_ := Aside0.mk (blk_below (g := gb623) (o := .cells #[.int .i64 t620, .int .i64 t621, .int .i64 t622] 23 (0, 0)) bk_ hb); have n10_ := Aside0.mk (below_step bl_ hb); clear HO_1; clear HO_2; clear HO_10; clear HO_11; clear HO_12; clear HO650; clear HO654; clear BK618; clear BK623; clear HB; have HO_1 := n0_; have HO_2 := n1_; have HO_10 := n2_; have HO_11 := n3_; have HO_12 := n4_; have HO650 := n5_; have HO654 := n6_; have HO658 := n7_; have BK618 := n8_; have BK623 := n9_; have HB := n10_; clear n0_ n1_ n2_ n3_ n4_ n5_ n6_ n7_ n8_ n9_ n10_; (try clear hb); (try clear hb2); (try clear hk); (try clear hi); (try clear ho0)))
     (try simp only [Act.put, List.setIfInBounds_toArray, List.set_cons_zero, List.set_cons_succ])
     go_cut [140] (fun v140 wc => ∃ (kq : Nat) (x140_45 : Bool), v140 = .bool x140_45 ∧ Aside0 (gambrellaw11_CodecLinear.j2 kq t619 (wrap64 ((wrap64 (Int.tdiv (wrap64 ((ji7) / t621)) 2)) * 2)) t648 t652 t656 x140_45 t620 t621 t622 = some r) ∧ Aside0 (kq ≤ k1) ∧ Aside0 (Kd.N (Kd.slice 5 (Kd.int .u8)) 34 wc w.heap.size (fun k_ => ((P1_ k_ ∨ P2_ k_) ∨ w.heap.size ≤ k_) ∧ some k_ ≠ (v653 : Value).ownBlock ∧ some k_ ≠ (v657 : Value).ownBlock ∧ k_ ≠ gb618 ∧ k_ ≠ gb623) v649 t648) ∧ Aside0 (Kd.N (Kd.slice 5 (Kd.int .u8)) 34 wc w.heap.size (fun k_ => ((P1_ k_ ∨ P2_ k_) ∨ w.heap.size ≤ k_) ∧ some k_ ≠ (v649 : Value).ownBlock ∧ some k_ ≠ (v657 : Value).ownBlock ∧ k_ ≠ gb618 ∧ k_ ≠ gb623) v653 t652) ∧ Aside0 (Kd.N (Kd.slice 5 (Kd.int .u8)) 34 wc w.heap.size (fun k_ => ((P1_ k_ ∨ P2_ k_) ∨ w.heap.size ≤ k_) ∧ some k_ ≠ (v649 : Value).ownBlock ∧ some k_ ≠ (v653 : Value).ownBlock ∧ k_ ≠ gb618 ∧ k_ ≠ gb623) v657 t656) ∧ Aside0 (wc.heap[gb618]? = some (.cells #[.int .u8 a0_0, .int .u8 a0_1, .int .u8 a0_2] 38 (0, 0))) ∧ Aside0 (wc.heap[gb623]? = some (.cells #[.int .i64 t620, .int .i64 t621, .int .i64 t622] 23 (0, 0))) ∧ Aside0 (Below w.heap.size w wc))
     case first =>
      have H := HC46.out
      clear HC46
      by_cases c57 : (wrap64 ((wrap64 (t651 + t655)) + t659)) = 0
      ·rw [if_pos c57] at H
       have c57b0 : ((wrap64 ((wrap64 (t651 + t655)) + t659)) == 0) = true := beq_iff_eq.mpr c57
       have c57b1 : ((wrap64 ((wrap64 (t651 + t655)) + t659)) != 0) = false := bne_eq_false_iff_eq.mpr c57
       clear c57
       (first | rw [c57b0] | (simp only [i64_w, i32_w]; rw [c57b0]) | skip)
       by_cases c58 : (t648.length : Int) = t622
       ·rw [if_pos c58] at H
        have c58b0 : ((t648.length : Int) == t622) = true := beq_iff_eq.mpr c58
        have c58b1 : ((t648.length : Int) != t622) = false := bne_eq_false_iff_eq.mpr c58
        clear c58
        by_cases c59 : (t652.length : Int) = t622
        ·rw [if_pos c59] at H
         have c59b0 : ((t652.length : Int) == t622) = true := beq_iff_eq.mpr c59
         have c59b1 : ((t652.length : Int) != t622) = false := bne_eq_false_iff_eq.mpr c59
         clear c59
         have H' := Aside0.mk H
         clear H
         obtain ⟨Ao60, co60, eo60⟩ := Kd.N_slice HO650.out
         subst eo60
         have hnb61 := NB623_618.out
         have hnc61 := NB618_623.out
         have hcz62_0 : w56.cell? ⟨gb623, 0, none⟩ = some (.int .i64 t620) := (blk_cell BK623.out 0).trans rfl
         have hcz62_1 : w56.cell? ⟨gb623, 1, none⟩ = some (.int .i64 t621) := (blk_cell BK623.out 1).trans rfl
         have hcz62_2 : w56.cell? ⟨gb623, 2, none⟩ = some (.int .i64 t622) := (blk_cell BK623.out 2).trans rfl
         have hfz62_0 := blk_frozen BK623.out 0
         have hfz62_1 := blk_frozen BK623.out 1
         have hfz62_2 := blk_frozen BK623.out 2
         obtain ⟨Ao63, co63, eo63⟩ := Kd.N_slice HO654.out
         subst eo63
         obtain ⟨Ao64, co64, eo64⟩ := Kd.N_slice HO658.out
         subst eo64
         go_wp2
         go_meet
         case rel => exact ⟨_, (((t656.length : Int) != t622)), sd_, H', ⟨by have := HK1.out; first | omega | exact Nat.le_refl _⟩, ⟨by (with_reducible repeat (first | apply Kd.N_alloc | apply Kd.N_drewN | apply Kd.N_drew)); exact Kd.N_mono HO650.out (fun _ hk => ⟨hk.1.1.1, ⟨hk.1.2, ⟨hk.2, ⟨hk.1.1.2.2.2.2.1, hk.1.1.2.2.2.2.2⟩⟩⟩⟩)⟩, ⟨by (with_reducible repeat (first | apply Kd.N_alloc | apply Kd.N_drewN | apply Kd.N_drew)); exact Kd.N_mono HO654.out (fun _ hk => ⟨hk.1.1, ⟨hk.1.2.2.2.2.1, ⟨hk.2, ⟨hk.1.2.2.2.2.2.1, hk.1.2.2.2.2.2.2⟩⟩⟩⟩)⟩, ⟨by (with_reducible repeat (first | apply Kd.N_alloc | apply Kd.N_drewN | apply Kd.N_drew)); exact Kd.N_mono HO658.out (fun _ hk => ⟨hk.1, ⟨hk.2.2.2.2.1, ⟨hk.2.2.2.2.2.1, ⟨hk.2.2.2.2.2.2.1, hk.2.2.2.2.2.2.2⟩⟩⟩⟩)⟩, ⟨bk_⟩, ⟨bk_⟩, ⟨bl_⟩⟩
        ·rw [if_neg c59] at H
         have c59b0 : ((t652.length : Int) == t622) = false := beq_eq_false_iff_ne.mpr c59
         have c59b1 : ((t652.length : Int) != t622) = true := bne_iff_ne.mpr c59
         have H' := Aside0.mk H
         clear H
         obtain ⟨Ao65, co65, eo65⟩ := Kd.N_slice HO650.out
         subst eo65
         have hnb66 := NB623_618.out
         have hnc66 := NB618_623.out
         have hcz67_0 : w56.cell? ⟨gb623, 0, none⟩ = some (.int .i64 t620) := (blk_cell BK623.out 0).trans rfl
         have hcz67_1 : w56.cell? ⟨gb623, 1, none⟩ = some (.int .i64 t621) := (blk_cell BK623.out 1).trans rfl
         have hcz67_2 : w56.cell? ⟨gb623, 2, none⟩ = some (.int .i64 t622) := (blk_cell BK623.out 2).trans rfl
         have hfz67_0 := blk_frozen BK623.out 0
         have hfz67_1 := blk_frozen BK623.out 1
         have hfz67_2 := blk_frozen BK623.out 2
         obtain ⟨Ao68, co68, eo68⟩ := Kd.N_slice HO654.out
         subst eo68
         go_wp2
         go_meet
         case rel => exact ⟨_, (true), sd_, H', ⟨by have := HK1.out; first | omega | exact Nat.le_refl _⟩, ⟨by (with_reducible repeat (first | apply Kd.N_alloc | apply Kd.N_drewN | apply Kd.N_drew)); exact Kd.N_mono HO650.out (fun _ hk => ⟨hk.1.1.1, ⟨hk.1.2, ⟨hk.2, ⟨hk.1.1.2.2.2.2.1, hk.1.1.2.2.2.2.2⟩⟩⟩⟩)⟩, ⟨by (with_reducible repeat (first | apply Kd.N_alloc | apply Kd.N_drewN | apply Kd.N_drew)); exact Kd.N_mono HO654.out (fun _ hk => ⟨hk.1.1, ⟨hk.1.2.2.2.2.1, ⟨hk.2, ⟨hk.1.2.2.2.2.2.1, hk.1.2.2.2.2.2.2⟩⟩⟩⟩)⟩, ⟨by (with_reducible repeat (first | apply Kd.N_alloc | apply Kd.N_drewN | apply Kd.N_drew)); exact Kd.N_mono HO658.out (fun _ hk => ⟨hk.1, ⟨hk.2.2.2.2.1, ⟨hk.2.2.2.2.2.1, ⟨hk.2.2.2.2.2.2.1, hk.2.2.2.2.2.2.2⟩⟩⟩⟩)⟩, ⟨bk_⟩, ⟨bk_⟩, ⟨bl_⟩⟩
       ·rw [if_neg c58] at H
        have c58b0 : ((t648.length : Int) == t622) = false := beq_eq_false_iff_ne.mpr c58
        have c58b1 : ((t648.length : Int) != t622) = true := bne_iff_ne.mpr c58
        have H' := Aside0.mk H
        clear H
        obtain ⟨Ao69, co69, eo69⟩ := Kd.N_slice HO650.out
        subst eo69
        have hnb70 := NB623_618.out
        have hnc70 := NB618_623.out
        have hcz71_0 : w56.cell? ⟨gb623, 0, none⟩ = some (.int .i64 t620) := (blk_cell BK623.out 0).trans rfl
        have hcz71_1 : w56.cell? ⟨gb623, 1, none⟩ = some (.int .i64 t621) := (blk_cell BK623.out 1).trans rfl
        have hcz71_2 : w56.cell? ⟨gb623, 2, none⟩ = some (.int .i64 t622) := (blk_cell BK623.out 2).trans rfl
        have hfz71_0 := blk_frozen BK623.out 0
        have hfz71_1 := blk_frozen BK623.out 1
        have hfz71_2 := blk_frozen BK623.out 2
        go_wp2
        go_meet
        case rel => exact ⟨_, (true), sd_, H', ⟨by have := HK1.out; first | omega | exact Nat.le_refl _⟩, ⟨by (with_reducible repeat (first | apply Kd.N_alloc | apply Kd.N_drewN | apply Kd.N_drew)); exact Kd.N_mono HO650.out (fun _ hk => ⟨hk.1.1.1, ⟨hk.1.2, ⟨hk.2, ⟨hk.1.1.2.2.2.2.1, hk.1.1.2.2.2.2.2⟩⟩⟩⟩)⟩, ⟨by (with_reducible repeat (first | apply Kd.N_alloc | apply Kd.N_drewN | apply Kd.N_drew)); exact Kd.N_mono HO654.out (fun _ hk => ⟨hk.1.1, ⟨hk.1.2.2.2.2.1, ⟨hk.2, ⟨hk.1.2.2.2.2.2.1, hk.1.2.2.2.2.2.2⟩⟩⟩⟩)⟩, ⟨by (with_reducible repeat (first | apply Kd.N_alloc | apply Kd.N_drewN | apply Kd.N_drew)); exact Kd.N_mono HO658.out (fun _ hk => ⟨hk.1, ⟨hk.2.2.2.2.1, ⟨hk.2.2.2.2.2.1, ⟨hk.2.2.2.2.2.2.1, hk.2.2.2.2.2.2.2⟩⟩⟩⟩)⟩, ⟨bk_⟩, ⟨bk_⟩, ⟨bl_⟩⟩
      ·rw [if_neg c57] at H
       have c57b0 : ((wrap64 ((wrap64 (t651 + t655)) + t659)) == 0) = false := beq_eq_false_iff_ne.mpr c57
       have c57b1 : ((wrap64 ((wrap64 (t651 + t655)) + t659)) != 0) = true := bne_iff_ne.mpr c57
       (first | rw [c57b0] | (simp only [i64_w, i32_w]; rw [c57b0]) | skip)
       have H' := Aside0.mk H
       clear H
       go_wp2
       go_meet
       case rel => exact ⟨_, (true), sd_, H', ⟨by have := HK1.out; first | omega | exact Nat.le_refl _⟩, ⟨by (with_reducible repeat (first | apply Kd.N_alloc | apply Kd.N_drewN | apply Kd.N_drew)); exact Kd.N_mono HO650.out (fun _ hk => ⟨hk.1.1.1, ⟨hk.1.2, ⟨hk.2, ⟨hk.1.1.2.2.2.2.1, hk.1.1.2.2.2.2.2⟩⟩⟩⟩)⟩, ⟨by (with_reducible repeat (first | apply Kd.N_alloc | apply Kd.N_drewN | apply Kd.N_drew)); exact Kd.N_mono HO654.out (fun _ hk => ⟨hk.1.1, ⟨hk.1.2.2.2.2.1, ⟨hk.2, ⟨hk.1.2.2.2.2.2.1, hk.1.2.2.2.2.2.2⟩⟩⟩⟩)⟩, ⟨by (with_reducible repeat (first | apply Kd.N_alloc | apply Kd.N_drewN | apply Kd.N_drew)); exact Kd.N_mono HO658.out (fun _ hk => ⟨hk.1, ⟨hk.2.2.2.2.1, ⟨hk.2.2.2.2.2.1, ⟨hk.2.2.2.2.2.2.1, hk.2.2.2.2.2.2.2⟩⟩⟩⟩)⟩, ⟨bk_⟩, ⟨bk_⟩, ⟨bl_⟩⟩
     case rest =>
      clear HC46
      try clear c1
      try clear c2
      try clear p2
      try clear q2
      try clear c3
      try clear q3
      try clear c4
      try clear c5
      try clear c6
      try clear p6
      try clear q6
      try clear hx6
      try clear c7
      try clear c8
      try clear c8b0
      try clear c8b1
      try clear c14
      try clear c15
      try clear c16
      try clear c16b0
      try clear c17
      try clear c18
      try clear c18b0
      try clear c18b1
      try clear c19
      try clear c19b0
      try clear c19b1
      try clear c20
      try clear c20b0
      try clear c20b1
      try clear c21
      try clear c22
      try clear c22b0
      try clear c23
      try clear c23b0
      try clear c24
      try clear c24b0
      try clear c24b1
      try clear c25
      try clear c26
      try clear c28
      try clear q28
      try clear c30
      try clear q30
      try clear c32
      try clear c32b0
      try clear c34
      try clear c34b0
      try clear c35
      try clear c35b0
      try clear c36
      try clear c36b0
      try clear c37
      try clear c40
      try clear c47
      try clear c57
      try clear c57b0
      try clear c57b1
      try clear c58
      try clear c58b0
      try clear c58b1
      try clear c59
      try clear c59b0
      try clear c59b1
      try clear c61
      try clear p64
      try clear q64
      try clear hx64
      try clear c66
      try clear c70
      try clear hcz11_0
      try clear hcz11_1
      try clear hcz11_2
      try clear hcz15_0
      try clear hcz15_1
      try clear hcz15_2
      try clear hcz27_0
      try clear hcz27_1
      try clear hcz27_2
      try clear hcz48_0
      try clear hcz48_1
      try clear hcz48_2
      try clear hcz51_0
      try clear hcz51_1
      try clear hcz51_2
      try clear hcz54_0
      try clear hcz54_1
      try clear hcz54_2
      try clear hcz62_0
      try clear hcz62_1
      try clear hcz62_2
      try clear hcz67_0
      try clear hcz67_1
      try clear hcz67_2
      try clear hcz71_0
      try clear hcz71_1
      try clear hcz71_2
      try clear hfz11_0
      try clear hfz11_1
      try clear hfz11_2
      try clear hfz15_0
      try clear hfz15_1
      try clear hfz15_2
      try clear hfz27_0
      try clear hfz27_1
      try clear hfz27_2
      try clear hfz48_0
      try clear hfz48_1
      try clear hfz48_2
      try clear hfz51_0
      try clear hfz51_1
      try clear hfz51_2
      try clear hfz54_0
      try clear hfz54_1
      try clear hfz54_2
      try clear hfz62_0
      try clear hfz62_1
      try clear hfz62_2
      try clear hfz67_0
      try clear hfz67_1
      try clear hfz67_2
      try clear hfz71_0
      try clear hfz71_1
      try clear hfz71_2
      try clear hx640_0
      try clear hx641_0
      try clear p2
      try clear p6
      try clear p640
      try clear p641
      try clear q028
      try clear q030
      try clear q2
      try clear q28
      try clear q3
      try clear q30
      try clear q640
      try clear q641
      obtain ⟨kq, x140_45, rfl, HA, HJ45, HO_16, HO_18, HO_20, BK618, BK623, HB⟩ := hcut
      cases kq with
      | zero => exact absurd HA.out (by simp [gambrellaw11_CodecLinear.j2])
      | succ kj45 =>
       have H := HA.out
       clear HA
       simp only [gambrellaw11_CodecLinear.j2] at H
       by_cases c72 : x140_45 = true
       ·subst c72
        have H1 : (some false) = some r := by rw [if_pos rfl] at H; exact H
        clear H
        have H := H1
        clear H1
        exact absurd ((Option.some.inj H).trans hr_.out) (by simp)
       ·replace c72 := Bool.eq_false_iff.mpr c72
        subst c72
        have H1 : (gambrellaw11_CodecLinear.l2 kj45 t619 (wrap64 ((wrap64 (Int.tdiv (wrap64 ((ji7) / t621)) 2)) * 2)) t648 t652 t656 0 t620 t621 t622) = some r := by rw [if_neg (show ¬ (false = true) by decide)] at H; exact H
        clear H
        have H := H1
        clear H1
        have H' := Aside0.mk H
        clear H
        go_wp2
        go_loopg [22] kj45 (fun kq v22 w' => ∃ (x22_3 : Int), v22 = .int .i64 x22_3 ∧ Aside0 (gambrellaw11_CodecLinear.l2 kq t619 (wrap64 ((wrap64 (Int.tdiv (wrap64 ((ji7) / t621)) 2)) * 2)) t648 t652 t656 x22_3 t620 t621 t622 = some r) ∧ Aside0 (kq ≤ kj45) ∧ Aside0 (Kd.N (Kd.slice 5 (Kd.int .u8)) 34 w' w.heap.size (fun k_ => ((P1_ k_ ∨ P2_ k_) ∨ w.heap.size ≤ k_) ∧ some k_ ≠ (v653 : Value).ownBlock ∧ some k_ ≠ (v657 : Value).ownBlock ∧ k_ ≠ gb618 ∧ k_ ≠ gb623) v649 t648) ∧ Aside0 (Kd.N (Kd.slice 5 (Kd.int .u8)) 34 w' w.heap.size (fun k_ => ((P1_ k_ ∨ P2_ k_) ∨ w.heap.size ≤ k_) ∧ some k_ ≠ (v649 : Value).ownBlock ∧ some k_ ≠ (v657 : Value).ownBlock ∧ k_ ≠ gb618 ∧ k_ ≠ gb623) v653 t652) ∧ Aside0 (Kd.N (Kd.slice 5 (Kd.int .u8)) 34 w' w.heap.size (fun k_ => ((P1_ k_ ∨ P2_ k_) ∨ w.heap.size ≤ k_) ∧ some k_ ≠ (v649 : Value).ownBlock ∧ some k_ ≠ (v653 : Value).ownBlock ∧ k_ ≠ gb618 ∧ k_ ≠ gb623) v657 t656) ∧ Aside0 (w'.heap[gb618]? = some (.cells #[.int .u8 a0_0, .int .u8 a0_1, .int .u8 a0_2] 38 (0, 0))) ∧ Aside0 (w'.heap[gb623]? = some (.cells #[.int .i64 t620, .int .i64 t621, .int .i64 t622] 23 (0, 0))) ∧ Aside0 (Below w.heap.size w w'))
        case atStart => exact ⟨(0), sd_, H', ⟨Nat.le_refl _⟩, ⟨by (with_reducible repeat (first | apply Kd.N_alloc | apply Kd.N_drewN | apply Kd.N_drew)); exact HO_16.out⟩, ⟨by (with_reducible repeat (first | apply Kd.N_alloc | apply Kd.N_drewN | apply Kd.N_drew)); exact HO_18.out⟩, ⟨by (with_reducible repeat (first | apply Kd.N_alloc | apply Kd.N_drewN | apply Kd.N_drew)); exact HO_20.out⟩, ⟨bk_⟩, ⟨bk_⟩, ⟨bl_⟩⟩
        case round =>
         clear H'
         try clear c1
         try clear c2
         try clear p2
         try clear q2
         try clear c3
         try clear q3
         try clear c4
         try clear c5
         try clear c6
         try clear p6
         try clear q6
         try clear hx6
         try clear c7
         try clear c8
         try clear c8b0
         try clear c8b1
         try clear c14
         try clear c15
         try clear c16
         try clear c16b0
         try clear c17
         try clear c18
         try clear c18b0
         try clear c18b1
         try clear c19
         try clear c19b0
         try clear c19b1
         try clear c20
         try clear c20b0
         try clear c20b1
         try clear c21
         try clear c22
         try clear c22b0
         try clear c23
         try clear c23b0
         try clear c24
         try clear c24b0
         try clear c24b1
         try clear c25
         try clear c26
         try clear c28
         try clear q28
         try clear c30
         try clear q30
         try clear c32
         try clear c32b0
         try clear c34
         try clear c34b0
         try clear c35
         try clear c35b0
         try clear c36
         try clear c36b0
         try clear c37
         try clear c40
         try clear c47
         try clear c57
         try clear c57b0
         try clear c57b1
         try clear c58
         try clear c58b0
         try clear c58b1
         try clear c59
         try clear c59b0
         try clear c59b1
         try clear c61
         try clear p64
         try clear q64
         try clear hx64
         try clear c66
         try clear c70
         try clear c72
         try clear hcz11_0
         try clear hcz11_1
         try clear hcz11_2
         try clear hcz15_0
         try clear hcz15_1
         try clear hcz15_2
         try clear hcz27_0
         try clear hcz27_1
         try clear hcz27_2
         try clear hcz48_0
         try clear hcz48_1
         try clear hcz48_2
         try clear hcz51_0
         try clear hcz51_1
         try clear hcz51_2
         try clear hcz54_0
         try clear hcz54_1
         try clear hcz54_2
         try clear hcz62_0
         try clear hcz62_1
         try clear hcz62_2
         try clear hcz67_0
         try clear hcz67_1
         try clear hcz67_2
         try clear hcz71_0
         try clear hcz71_1
         try clear hcz71_2
         try clear hfz11_0
         try clear hfz11_1
         try clear hfz11_2
         try clear hfz15_0
         try clear hfz15_1
         try clear hfz15_2
         try clear hfz27_0
         try clear hfz27_1
         try clear hfz27_2
         try clear hfz48_0
         try clear hfz48_1
         try clear hfz48_2
         try clear hfz51_0
         try clear hfz51_1
         try clear hfz51_2
         try clear hfz54_0
         try clear hfz54_1
         try clear hfz54_2
         try clear hfz62_0
         try clear hfz62_1
         try clear hfz62_2
         try clear hfz67_0
         try clear hfz67_1
         try clear hfz67_2
         try clear hfz71_0
         try clear hfz71_1
         try clear hfz71_2
         try clear hx640_0
         try clear hx641_0
         try clear p2
         try clear p6
         try clear p64
         try clear p640
         try clear p641
         try clear q028
         try clear q030
         try clear q2
         try clear q28
         try clear q3
         try clear q30
         try clear q6
         try clear q64
         try clear q640
         try clear q641
         obtain ⟨x22_3, rfl, HA, HK3, HO_16, HO_18, HO_20, BK618, BK623, HB⟩ := hrel
         cases gk with
         | zero => exact absurd HA.out (by simp [gambrellaw11_CodecLinear.l2])
         | succ k3 =>
          have H := HA.out
          clear HA
          simp only [gambrellaw11_CodecLinear.l2] at H
          by_cases c73 : x22_3 < t622
          ·rw [if_pos c73] at H
           have c73b0 : decide (x22_3 < t622) = true := decide_eq_true c73
           clear c73
           have HC74 := Aside0.mk H
           clear H
           have hnb75 := NB623_618.out
           have hnc75 := NB618_623.out
           have hcz76_0 : wr.cell? ⟨gb623, 0, none⟩ = some (.int .i64 t620) := (blk_cell BK623.out 0).trans rfl
           have hcz76_1 : wr.cell? ⟨gb623, 1, none⟩ = some (.int .i64 t621) := (blk_cell BK623.out 1).trans rfl
           have hcz76_2 : wr.cell? ⟨gb623, 2, none⟩ = some (.int .i64 t622) := (blk_cell BK623.out 2).trans rfl
           have hfz76_0 := blk_frozen BK623.out 0
           have hfz76_1 := blk_frozen BK623.out 1
           have hfz76_2 := blk_frozen BK623.out 2
           go_upto_region 26 with (fail)
           go_cut [171] (fun v171 wc => ∃ (kq : Nat) (x171_73 : Bool), v171 = .bool x171_73 ∧ Aside0 (gambrellaw11_CodecLinear.j4 kq t619 (wrap64 ((wrap64 (Int.tdiv (wrap64 ((ji7) / t621)) 2)) * 2)) t648 t652 t656 x22_3 x171_73 t620 t621 t622 = some r) ∧ Aside0 (kq ≤ k3) ∧ Aside0 (Kd.N (Kd.slice 5 (Kd.int .u8)) 34 wc w.heap.size (fun k_ => ((P1_ k_ ∨ P2_ k_) ∨ w.heap.size ≤ k_) ∧ some k_ ≠ (v653 : Value).ownBlock ∧ some k_ ≠ (v657 : Value).ownBlock ∧ k_ ≠ gb618 ∧ k_ ≠ gb623) v649 t648) ∧ Aside0 (Kd.N (Kd.slice 5 (Kd.int .u8)) 34 wc w.heap.size (fun k_ => ((P1_ k_ ∨ P2_ k_) ∨ w.heap.size ≤ k_) ∧ some k_ ≠ (v649 : Value).ownBlock ∧ some k_ ≠ (v657 : Value).ownBlock ∧ k_ ≠ gb618 ∧ k_ ≠ gb623) v653 t652) ∧ Aside0 (Kd.N (Kd.slice 5 (Kd.int .u8)) 34 wc w.heap.size (fun k_ => ((P1_ k_ ∨ P2_ k_) ∨ w.heap.size ≤ k_) ∧ some k_ ≠ (v649 : Value).ownBlock ∧ some k_ ≠ (v653 : Value).ownBlock ∧ k_ ≠ gb618 ∧ k_ ≠ gb623) v657 t656) ∧ Aside0 (wc.heap[gb618]? = some (.cells #[.int .u8 a0_0, .int .u8 a0_1, .int .u8 a0_2] 38 (0, 0))) ∧ Aside0 (wc.heap[gb623]? = some (.cells #[.int .i64 t620, .int .i64 t621, .int .i64 t622] 23 (0, 0))) ∧ Aside0 (Below w.heap.size w wc))
           case first =>
            have H := HC74.out
            clear HC74
            by_cases c77 : 0 ≤ x22_3
            ·rw [if_pos c77] at H
             have c77b0 : decide (0 ≤ x22_3) = true := decide_eq_true c77
             clear c77
             (first | rw [c77b0] | (simp only [i64_w, i32_w]; rw [c77b0]) | skip)
             by_cases c78 : x22_3 < (t648.length : Int)
             ·rw [if_pos c78] at H
              have c78b0 : decide (x22_3 < (t648.length : Int)) = true := decide_eq_true c78
              clear c78
              by_cases c79 : ((rd_L1 t648 x22_3).length : Int) = (wrap64 ((wrap64 (Int.tdiv (wrap64 ((ji7) / t621)) 2)) * 2))
              ·rw [if_pos c79] at H
               have c79b0 : (((rd_L1 t648 x22_3).length : Int) == (wrap64 ((wrap64 (Int.tdiv (wrap64 ((ji7) / t621)) 2)) * 2))) = true := beq_iff_eq.mpr c79
               have c79b1 : (((rd_L1 t648 x22_3).length : Int) != (wrap64 ((wrap64 (Int.tdiv (wrap64 ((ji7) / t621)) 2)) * 2))) = false := bne_eq_false_iff_eq.mpr c79
               clear c79
               by_cases c80 : x22_3 < (t652.length : Int)
               ·rw [if_pos c80] at H
                have c80b0 : decide (x22_3 < (t652.length : Int)) = true := decide_eq_true c80
                clear c80
                by_cases c81 : ((rd_L1 t652 x22_3).length : Int) = (wrap64 ((wrap64 (Int.tdiv (wrap64 ((ji7) / t621)) 2)) * 2))
                ·rw [if_pos c81] at H
                 have c81b0 : (((rd_L1 t652 x22_3).length : Int) == (wrap64 ((wrap64 (Int.tdiv (wrap64 ((ji7) / t621)) 2)) * 2))) = true := beq_iff_eq.mpr c81
                 have c81b1 : (((rd_L1 t652 x22_3).length : Int) != (wrap64 ((wrap64 (Int.tdiv (wrap64 ((ji7) / t621)) 2)) * 2))) = false := bne_eq_false_iff_eq.mpr c81
                 clear c81
                 by_cases c82 : x22_3 < (t656.length : Int)
                 ·rw [if_pos c82] at H
                  have c82b0 : decide (x22_3 < (t656.length : Int)) = true := decide_eq_true c82
                  clear c82
                  have H' := Aside0.mk H
                  clear H
                  obtain ⟨Ao83, co83, eo83⟩ := Kd.N_slice HO_16.out
                  subst eo83
                  have p660 : 0 ≤ (x22_3 : Int) := of_decide_eq_true as_
                  have q660 : x22_3 < (t648.length : Int) := of_decide_eq_true as_
                  obtain ⟨ad660, A660_0, c660_0, e660, hx660_0, hl660_0, hi660_0⟩ := at_L1 (Kd.N_reads' HO_16.out).2.2 x22_3 p660 q660
                  cases e660
                  obtain ⟨ce660, hce660, hMe660, hcc660⟩ := Kd.N_get HO_16.out [] x22_3 p660 (by first | exact q660 | exact of_decide_eq_true as_ | (have e_ := (Kd.N_reads' HO_16.out).1; omega))
                  obtain ⟨ua660_0, uc660_0, rfl, ul660_0, ge660_0⟩ := Kd.FK_slice_open hMe660
                  have hv660_0 := hcc660 0 _ rfl
                  rw [Nat.add_zero, show ((Kd.slice 5 (Kd.int .u8))).sz = 1 from rfl, Nat.mul_one] at hv660_0
                  replace hv660_0 := Option.some.inj (hv660_0.symm.trans hx660_0)
                  injection hv660_0 with hva_ hvn_ hvc_
                  rw [hva_] at ge660_0
                  rw [hvc_] at ul660_0
                  have HL660_0 := Aside0.mk (show Kd.V (Kd.int .u8) 5 _ w.heap.size _ _ (rd_L1 t648 x22_3) from Kd.V_mk ul660_0 ge660_0)
                  clear hva_ hvn_ hvc_ ge660_0 ul660_0
                  clear hcc660 hce660
                  have HR660_0 := Aside0.mk hi660_0
                  have HC660_0 := Aside0.mk hl660_0
                  clear hi660_0 hl660_0
                  replace p660 := eq_true p660
                  replace q660 := eq_true q660
                  obtain ⟨Ao84, co84, eo84⟩ := Kd.N_slice HO_18.out
                  subst eo84
                  have p661 : 0 ≤ (x22_3 : Int) := of_decide_eq_true as_
                  have q661 : x22_3 < (t652.length : Int) := of_decide_eq_true as_
                  obtain ⟨ad661, A661_0, c661_0, e661, hx661_0, hl661_0, hi661_0⟩ := at_L1 (Kd.N_reads' HO_18.out).2.2 x22_3 p661 q661
                  cases e661
                  obtain ⟨ce661, hce661, hMe661, hcc661⟩ := Kd.N_get HO_18.out [] x22_3 p661 (by first | exact q661 | exact of_decide_eq_true as_ | (have e_ := (Kd.N_reads' HO_18.out).1; omega))
                  obtain ⟨ua661_0, uc661_0, rfl, ul661_0, ge661_0⟩ := Kd.FK_slice_open hMe661
                  have hv661_0 := hcc661 0 _ rfl
                  rw [Nat.add_zero, show ((Kd.slice 5 (Kd.int .u8))).sz = 1 from rfl, Nat.mul_one] at hv661_0
                  replace hv661_0 := Option.some.inj (hv661_0.symm.trans hx661_0)
                  injection hv661_0 with hva_ hvn_ hvc_
                  rw [hva_] at ge661_0
                  rw [hvc_] at ul661_0
                  have HL661_0 := Aside0.mk (show Kd.V (Kd.int .u8) 5 _ w.heap.size _ _ (rd_L1 t652 x22_3) from Kd.V_mk ul661_0 ge661_0)
                  clear hva_ hvn_ hvc_ ge661_0 ul661_0
                  clear hcc661 hce661
                  have HR661_0 := Aside0.mk hi661_0
                  have HC661_0 := Aside0.mk hl661_0
                  clear hi661_0 hl661_0
                  replace p661 := eq_true p661
                  replace q661 := eq_true q661
                  obtain ⟨Ao85, co85, eo85⟩ := Kd.N_slice HO_20.out
                  subst eo85
                  have p662 : 0 ≤ (x22_3 : Int) := of_decide_eq_true as_
                  have q662 : x22_3 < (t656.length : Int) := of_decide_eq_true as_
                  obtain ⟨ad662, A662_0, c662_0, e662, hx662_0, hl662_0, hi662_0⟩ := at_L1 (Kd.N_reads' HO_20.out).2.2 x22_3 p662 q662
                  cases e662
                  obtain ⟨ce662, hce662, hMe662, hcc662⟩ := Kd.N_get HO_20.out [] x22_3 p662 (by first | exact q662 | exact of_decide_eq_true as_ | (have e_ := (Kd.N_reads' HO_20.out).1; omega))
                  obtain ⟨ua662_0, uc662_0, rfl, ul662_0, ge662_0⟩ := Kd.FK_slice_open hMe662
                  have hv662_0 := hcc662 0 _ rfl
                  rw [Nat.add_zero, show ((Kd.slice 5 (Kd.int .u8))).sz = 1 from rfl, Nat.mul_one] at hv662_0
                  replace hv662_0 := Option.some.inj (hv662_0.symm.trans hx662_0)
                  injection hv662_0 with hva_ hvn_ hvc_
                  rw [hva_] at ge662_0
                  rw [hvc_] at ul662_0
                  have HL662_0 := Aside0.mk (show Kd.V (Kd.int .u8) 5 _ w.heap.size _ _ (rd_L1 t656 x22_3) from Kd.V_mk ul662_0 ge662_0)
                  clear hva_ hvn_ hvc_ ge662_0 ul662_0
                  clear hcc662 hce662
                  have HR662_0 := Aside0.mk hi662_0
                  have HC662_0 := Aside0.mk hl662_0
                  clear hi662_0 hl662_0
                  replace p662 := eq_true p662
                  replace q662 := eq_true q662
                  go_wp2
                  go_meet
                  case rel => exact ⟨_, ((((rd_L1 t656 x22_3).length : Int) != (wrap64 ((wrap64 (Int.tdiv (wrap64 ((ji7) / t621)) 2)) * 2)))), (by first | rfl | (simp; done) | (simp only [← hji7] <;> (first | rfl | simp)) | (simp [*]; done)), H', ⟨by have := HK1.out; have := HJ45.out; have := HK3.out; first | omega | exact Nat.le_refl _⟩, ⟨by (with_reducible repeat (first | apply Kd.N_alloc | apply Kd.N_drewN | apply Kd.N_drew)); exact HO_16.out⟩, ⟨by (with_reducible repeat (first | apply Kd.N_alloc | apply Kd.N_drewN | apply Kd.N_drew)); exact HO_18.out⟩, ⟨by (with_reducible repeat (first | apply Kd.N_alloc | apply Kd.N_drewN | apply Kd.N_drew)); exact HO_20.out⟩, ⟨bk_⟩, ⟨bk_⟩, ⟨bl_⟩⟩
                 ·rw [if_neg c82] at H
                  exact absurd H (by simp)
                ·rw [if_neg c81] at H
                 have c81b0 : (((rd_L1 t652 x22_3).length : Int) == (wrap64 ((wrap64 (Int.tdiv (wrap64 ((ji7) / t621)) 2)) * 2))) = false := beq_eq_false_iff_ne.mpr c81
                 have c81b1 : (((rd_L1 t652 x22_3).length : Int) != (wrap64 ((wrap64 (Int.tdiv (wrap64 ((ji7) / t621)) 2)) * 2))) = true := bne_iff_ne.mpr c81
                 have H' := Aside0.mk H
                 clear H
                 obtain ⟨Ao86, co86, eo86⟩ := Kd.N_slice HO_16.out
                 subst eo86
                 have p660 : 0 ≤ (x22_3 : Int) := of_decide_eq_true as_
                 have q660 : x22_3 < (t648.length : Int) := of_decide_eq_true as_
                 obtain ⟨ad660, A660_0, c660_0, e660, hx660_0, hl660_0, hi660_0⟩ := at_L1 (Kd.N_reads' HO_16.out).2.2 x22_3 p660 q660
                 cases e660
                 obtain ⟨ce660, hce660, hMe660, hcc660⟩ := Kd.N_get HO_16.out [] x22_3 p660 (by first | exact q660 | exact of_decide_eq_true as_ | (have e_ := (Kd.N_reads' HO_16.out).1; omega))
                 obtain ⟨ua660_0, uc660_0, rfl, ul660_0, ge660_0⟩ := Kd.FK_slice_open hMe660
                 have hv660_0 := hcc660 0 _ rfl
                 rw [Nat.add_zero, show ((Kd.slice 5 (Kd.int .u8))).sz = 1 from rfl, Nat.mul_one] at hv660_0
                 replace hv660_0 := Option.some.inj (hv660_0.symm.trans hx660_0)
                 injection hv660_0 with hva_ hvn_ hvc_
                 rw [hva_] at ge660_0
                 rw [hvc_] at ul660_0
                 have HL660_0 := Aside0.mk (show Kd.V (Kd.int .u8) 5 _ w.heap.size _ _ (rd_L1 t648 x22_3) from Kd.V_mk ul660_0 ge660_0)
                 clear hva_ hvn_ hvc_ ge660_0 ul660_0
                 clear hcc660 hce660
                 have HR660_0 := Aside0.mk hi660_0
                 have HC660_0 := Aside0.mk hl660_0
                 clear hi660_0 hl660_0
                 replace p660 := eq_true p660
                 replace q660 := eq_true q660
                 obtain ⟨Ao87, co87, eo87⟩ := Kd.N_slice HO_18.out
                 subst eo87
                 have p661 : 0 ≤ (x22_3 : Int) := of_decide_eq_true as_
                 have q661 : x22_3 < (t652.length : Int) := of_decide_eq_true as_
                 obtain ⟨ad661, A661_0, c661_0, e661, hx661_0, hl661_0, hi661_0⟩ := at_L1 (Kd.N_reads' HO_18.out).2.2 x22_3 p661 q661
                 cases e661
                 obtain ⟨ce661, hce661, hMe661, hcc661⟩ := Kd.N_get HO_18.out [] x22_3 p661 (by first | exact q661 | exact of_decide_eq_true as_ | (have e_ := (Kd.N_reads' HO_18.out).1; omega))
                 obtain ⟨ua661_0, uc661_0, rfl, ul661_0, ge661_0⟩ := Kd.FK_slice_open hMe661
                 have hv661_0 := hcc661 0 _ rfl
                 rw [Nat.add_zero, show ((Kd.slice 5 (Kd.int .u8))).sz = 1 from rfl, Nat.mul_one] at hv661_0
                 replace hv661_0 := Option.some.inj (hv661_0.symm.trans hx661_0)
                 injection hv661_0 with hva_ hvn_ hvc_
                 rw [hva_] at ge661_0
                 rw [hvc_] at ul661_0
                 have HL661_0 := Aside0.mk (show Kd.V (Kd.int .u8) 5 _ w.heap.size _ _ (rd_L1 t652 x22_3) from Kd.V_mk ul661_0 ge661_0)
                 clear hva_ hvn_ hvc_ ge661_0 ul661_0
                 clear hcc661 hce661
                 have HR661_0 := Aside0.mk hi661_0
                 have HC661_0 := Aside0.mk hl661_0
                 clear hi661_0 hl661_0
                 replace p661 := eq_true p661
                 replace q661 := eq_true q661
                 go_wp2
                 go_meet
                 case rel => exact ⟨_, (true), sd_, H', ⟨by have := HK1.out; have := HJ45.out; have := HK3.out; first | omega | exact Nat.le_refl _⟩, ⟨by (with_reducible repeat (first | apply Kd.N_alloc | apply Kd.N_drewN | apply Kd.N_drew)); exact HO_16.out⟩, ⟨by (with_reducible repeat (first | apply Kd.N_alloc | apply Kd.N_drewN | apply Kd.N_drew)); exact HO_18.out⟩, ⟨by (with_reducible repeat (first | apply Kd.N_alloc | apply Kd.N_drewN | apply Kd.N_drew)); exact HO_20.out⟩, ⟨bk_⟩, ⟨bk_⟩, ⟨bl_⟩⟩
               ·rw [if_neg c80] at H
                exact absurd H (by simp)
              ·rw [if_neg c79] at H
               have c79b0 : (((rd_L1 t648 x22_3).length : Int) == (wrap64 ((wrap64 (Int.tdiv (wrap64 ((ji7) / t621)) 2)) * 2))) = false := beq_eq_false_iff_ne.mpr c79
               have c79b1 : (((rd_L1 t648 x22_3).length : Int) != (wrap64 ((wrap64 (Int.tdiv (wrap64 ((ji7) / t621)) 2)) * 2))) = true := bne_iff_ne.mpr c79
               have H' := Aside0.mk H
               clear H
               obtain ⟨Ao88, co88, eo88⟩ := Kd.N_slice HO_16.out
               subst eo88
               have p660 : 0 ≤ (x22_3 : Int) := of_decide_eq_true as_
               have q660 : x22_3 < (t648.length : Int) := of_decide_eq_true as_
               obtain ⟨ad660, A660_0, c660_0, e660, hx660_0, hl660_0, hi660_0⟩ := at_L1 (Kd.N_reads' HO_16.out).2.2 x22_3 p660 q660
               cases e660
               obtain ⟨ce660, hce660, hMe660, hcc660⟩ := Kd.N_get HO_16.out [] x22_3 p660 (by first | exact q660 | exact of_decide_eq_true as_ | (have e_ := (Kd.N_reads' HO_16.out).1; omega))
               obtain ⟨ua660_0, uc660_0, rfl, ul660_0, ge660_0⟩ := Kd.FK_slice_open hMe660
               have hv660_0 := hcc660 0 _ rfl
               rw [Nat.add_zero, show ((Kd.slice 5 (Kd.int .u8))).sz = 1 from rfl, Nat.mul_one] at hv660_0
               replace hv660_0 := Option.some.inj (hv660_0.symm.trans hx660_0)
               injection hv660_0 with hva_ hvn_ hvc_
               rw [hva_] at ge660_0
               rw [hvc_] at ul660_0
               have HL660_0 := Aside0.mk (show Kd.V (Kd.int .u8) 5 _ w.heap.size _ _ (rd_L1 t648 x22_3) from Kd.V_mk ul660_0 ge660_0)
               clear hva_ hvn_ hvc_ ge660_0 ul660_0
               clear hcc660 hce660
               have HR660_0 := Aside0.mk hi660_0
               have HC660_0 := Aside0.mk hl660_0
               clear hi660_0 hl660_0
               replace p660 := eq_true p660
               replace q660 := eq_true q660
               go_wp2
               go_meet
               case rel => exact ⟨_, (true), sd_, H', ⟨by have := HK1.out; have := HJ45.out; have := HK3.out; first | omega | exact Nat.le_refl _⟩, ⟨by (with_reducible repeat (first | apply Kd.N_alloc | apply Kd.N_drewN | apply Kd.N_drew)); exact HO_16.out⟩, ⟨by (with_reducible repeat (first | apply Kd.N_alloc | apply Kd.N_drewN | apply Kd.N_drew)); exact HO_18.out⟩, ⟨by (with_reducible repeat (first | apply Kd.N_alloc | apply Kd.N_drewN | apply Kd.N_drew)); exact HO_20.out⟩, ⟨bk_⟩, ⟨bk_⟩, ⟨bl_⟩⟩
             ·rw [if_neg c78] at H
              exact absurd H (by simp)
            ·rw [if_neg c77] at H
             exact absurd H (by simp)
           case rest =>
            clear HC74
            try clear c1
            try clear c2
            try clear p2
            try clear q2
            try clear c3
            try clear q3
            try clear c4
            try clear c5
            try clear c6
            try clear p6
            try clear q6
            try clear hx6
            try clear c7
            try clear c8
            try clear c8b0
            try clear c8b1
            try clear c14
            try clear c15
            try clear c16
            try clear c16b0
            try clear c17
            try clear c18
            try clear c18b0
            try clear c18b1
            try clear c19
            try clear c19b0
            try clear c19b1
            try clear c20
            try clear c20b0
            try clear c20b1
            try clear c21
            try clear c22
            try clear c22b0
            try clear c23
            try clear c23b0
            try clear c24
            try clear c24b0
            try clear c24b1
            try clear c25
            try clear c26
            try clear c28
            try clear q28
            try clear c30
            try clear q30
            try clear c32
            try clear c32b0
            try clear c34
            try clear c34b0
            try clear c35
            try clear c35b0
            try clear c36
            try clear c36b0
            try clear c37
            try clear c40
            try clear c47
            try clear c57
            try clear c57b0
            try clear c57b1
            try clear c58
            try clear c58b0
            try clear c58b1
            try clear c59
            try clear c59b0
            try clear c59b1
            try clear c61
            try clear p64
            try clear q64
            try clear hx64
            try clear c66
            try clear p66
            try clear q66
            try clear hx66
            try clear c70
            try clear c72
            try clear c73
            try clear c73b0
            try clear c75
            try clear c77
            try clear c77b0
            try clear c78
            try clear c78b0
            try clear c79
            try clear c79b0
            try clear c79b1
            try clear c80
            try clear c80b0
            try clear c81
            try clear c81b0
            try clear c81b1
            try clear c82
            try clear c82b0
            try clear hcz11_0
            try clear hcz11_1
            try clear hcz11_2
            try clear hcz15_0
            try clear hcz15_1
            try clear hcz15_2
            try clear hcz27_0
            try clear hcz27_1
            try clear hcz27_2
            try clear hcz48_0
            try clear hcz48_1
            try clear hcz48_2
            try clear hcz51_0
            try clear hcz51_1
            try clear hcz51_2
            try clear hcz54_0
            try clear hcz54_1
            try clear hcz54_2
            try clear hcz62_0
            try clear hcz62_1
            try clear hcz62_2
            try clear hcz67_0
            try clear hcz67_1
            try clear hcz67_2
            try clear hcz71_0
            try clear hcz71_1
            try clear hcz71_2
            try clear hcz76_0
            try clear hcz76_1
            try clear hcz76_2
            try clear hfz11_0
            try clear hfz11_1
            try clear hfz11_2
            try clear hfz15_0
            try clear hfz15_1
            try clear hfz15_2
            try clear hfz27_0
            try clear hfz27_1
            try clear hfz27_2
            try clear hfz48_0
            try clear hfz48_1
            try clear hfz48_2
            try clear hfz51_0
            try clear hfz51_1
            try clear hfz51_2
            try clear hfz54_0
            try clear hfz54_1
            try clear hfz54_2
            try clear hfz62_0
            try clear hfz62_1
            try clear hfz62_2
            try clear hfz67_0
            try clear hfz67_1
            try clear hfz67_2
            try clear hfz71_0
            try clear hfz71_1
            try clear hfz71_2
            try clear hfz76_0
            try clear hfz76_1
            try clear hfz76_2
            try clear hx640_0
            try clear hx641_0
            try clear hx660_0
            try clear hx661_0
            try clear hx662_0
            try clear p2
            try clear p6
            try clear p64
            try clear p640
            try clear p641
            try clear p660
            try clear p661
            try clear p662
            try clear q028
            try clear q030
            try clear q2
            try clear q28
            try clear q3
            try clear q30
            try clear q6
            try clear q64
            try clear q640
            try clear q641
            try clear q660
            try clear q661
            try clear q662
            obtain ⟨kq, x171_73, rfl, HA, HJ73, HO_16, HO_18, HO_20, BK618, BK623, HB⟩ := hcut
            cases kq with
            | zero => exact absurd HA.out (by simp [gambrellaw11_CodecLinear.j4])
            | succ kj73 =>
             have H := HA.out
             clear HA
             simp only [gambrellaw11_CodecLinear.j4] at H
             by_cases c89 : x171_73 = true
             ·subst c89
              have H1 : (some false) = some r := by rw [if_pos rfl] at H; exact H
              clear H
              have H := H1
              clear H1
              exact absurd ((Option.some.inj H).trans hr_.out) (by simp)
             ·replace c89 := Bool.eq_false_iff.mpr c89
              subst c89
              have H1 : (gambrellaw11_CodecLinear.l3 kj73 t619 (wrap64 ((wrap64 (Int.tdiv (wrap64 ((ji7) / t621)) 2)) * 2)) t648 t652 t656 x22_3 0 t620 t621 t622) = some r := by rw [if_neg (show ¬ (false = true) by decide)] at H; exact H
              clear H
              have H := H1
              clear H1
              have H' := Aside0.mk H
              clear H
              go_wp2
              go_loopg [23] kj73 (fun kq v23 w' => ∃ (x23_5 : Int), v23 = .int .i64 x23_5 ∧ Aside0 (gambrellaw11_CodecLinear.l3 kq t619 (wrap64 ((wrap64 (Int.tdiv (wrap64 ((ji7) / t621)) 2)) * 2)) t648 t652 t656 x22_3 x23_5 t620 t621 t622 = some r) ∧ Aside0 (kq ≤ kj73) ∧ Aside0 (Kd.N (Kd.slice 5 (Kd.int .u8)) 34 w' w.heap.size (fun k_ => ((P1_ k_ ∨ P2_ k_) ∨ w.heap.size ≤ k_) ∧ some k_ ≠ (v653 : Value).ownBlock ∧ some k_ ≠ (v657 : Value).ownBlock ∧ k_ ≠ gb618 ∧ k_ ≠ gb623) v649 t648) ∧ Aside0 (Kd.N (Kd.slice 5 (Kd.int .u8)) 34 w' w.heap.size (fun k_ => ((P1_ k_ ∨ P2_ k_) ∨ w.heap.size ≤ k_) ∧ some k_ ≠ (v649 : Value).ownBlock ∧ some k_ ≠ (v657 : Value).ownBlock ∧ k_ ≠ gb618 ∧ k_ ≠ gb623) v653 t652) ∧ Aside0 (Kd.N (Kd.slice 5 (Kd.int .u8)) 34 w' w.heap.size (fun k_ => ((P1_ k_ ∨ P2_ k_) ∨ w.heap.size ≤ k_) ∧ some k_ ≠ (v649 : Value).ownBlock ∧ some k_ ≠ (v653 : Value).ownBlock ∧ k_ ≠ gb618 ∧ k_ ≠ gb623) v657 t656) ∧ Aside0 (w'.heap[gb618]? = some (.cells #[.int .u8 a0_0, .int .u8 a0_1, .int .u8 a0_2] 38 (0, 0))) ∧ Aside0 (w'.heap[gb623]? = some (.cells #[.int .i64 t620, .int .i64 t621, .int .i64 t622] 23 (0, 0))) ∧ Aside0 (Below w.heap.size w w'))
              case atStart => exact ⟨(0), sd_, H', ⟨Nat.le_refl _⟩, ⟨by (with_reducible repeat (first | apply Kd.N_alloc | apply Kd.N_drewN | apply Kd.N_drew)); exact HO_16.out⟩, ⟨by (with_reducible repeat (first | apply Kd.N_alloc | apply Kd.N_drewN | apply Kd.N_drew)); exact HO_18.out⟩, ⟨by (with_reducible repeat (first | apply Kd.N_alloc | apply Kd.N_drewN | apply Kd.N_drew)); exact HO_20.out⟩, ⟨bk_⟩, ⟨bk_⟩, ⟨bl_⟩⟩
              case round =>
               clear H'
               try clear c1
               try clear c2
               try clear p2
               try clear q2
               try clear c3
               try clear q3
               try clear c4
               try clear c5
               try clear c6
               try clear p6
               try clear q6
               try clear hx6
               try clear c7
               try clear c8
               try clear c8b0
               try clear c8b1
               try clear c14
               try clear c15
               try clear c16
               try clear c16b0
               try clear c17
               try clear c18
               try clear c18b0
               try clear c18b1
               try clear c19
               try clear c19b0
               try clear c19b1
               try clear c20
               try clear c20b0
               try clear c20b1
               try clear c21
               try clear c22
               try clear c22b0
               try clear c23
               try clear c23b0
               try clear c24
               try clear c24b0
               try clear c24b1
               try clear c25
               try clear c26
               try clear c28
               try clear q28
               try clear c30
               try clear q30
               try clear c32
               try clear c32b0
               try clear c34
               try clear c34b0
               try clear c35
               try clear c35b0
               try clear c36
               try clear c36b0
               try clear c37
               try clear c40
               try clear c47
               try clear c57
               try clear c57b0
               try clear c57b1
               try clear c58
               try clear c58b0
               try clear c58b1
               try clear c59
               try clear c59b0
               try clear c59b1
               try clear c61
               try clear p64
               try clear q64
               try clear hx64
               try clear c66
               try clear p66
               try clear q66
               try clear hx66
               try clear c70
               try clear c72
               try clear c73
               try clear c73b0
               try clear c75
               try clear c77
               try clear c77b0
               try clear c78
               try clear c78b0
               try clear c79
               try clear c79b0
               try clear c79b1
               try clear c80
               try clear c80b0
               try clear c81
               try clear c81b0
               try clear c81b1
               try clear c82
               try clear c82b0
               try clear c89
               try clear hcz11_0
               try clear hcz11_1
               try clear hcz11_2
               try clear hcz15_0
               try clear hcz15_1
               try clear hcz15_2
               try clear hcz27_0
               try clear hcz27_1
               try clear hcz27_2
               try clear hcz48_0
               try clear hcz48_1
               try clear hcz48_2
               try clear hcz51_0
               try clear hcz51_1
               try clear hcz51_2
               try clear hcz54_0
               try clear hcz54_1
               try clear hcz54_2
               try clear hcz62_0
               try clear hcz62_1
               try clear hcz62_2
               try clear hcz67_0
               try clear hcz67_1
               try clear hcz67_2
               try clear hcz71_0
               try clear hcz71_1
               try clear hcz71_2
               try clear hcz76_0
               try clear hcz76_1
               try clear hcz76_2
               try clear hfz11_0
               try clear hfz11_1
               try clear hfz11_2
               try clear hfz15_0
               try clear hfz15_1
               try clear hfz15_2
               try clear hfz27_0
               try clear hfz27_1
               try clear hfz27_2
               try clear hfz48_0
               try clear hfz48_1
               try clear hfz48_2
               try clear hfz51_0
               try clear hfz51_1
               try clear hfz51_2
               try clear hfz54_0
               try clear hfz54_1
               try clear hfz54_2
               try clear hfz62_0
               try clear hfz62_1
               try clear hfz62_2
               try clear hfz67_0
               try clear hfz67_1
               try clear hfz67_2
               try clear hfz71_0
               try clear hfz71_1
               try clear hfz71_2
               try clear hfz76_0
               try clear hfz76_1
               try clear hfz76_2
               try clear hx640_0
               try clear hx641_0
               try clear hx660_0
               try clear hx661_0
               try clear hx662_0
               try clear p2
               try clear p6
               try clear p64
               try clear p640
               try clear p641
               try clear p66
               try clear p660
               try clear p661
               try clear p662
               try clear q028
               try clear q030
               try clear q2
               try clear q28
               try clear q3
               try clear q30
               try clear q6
               try clear q64
               try clear q640
               try clear q641
               try clear q66
               try clear q660
               try clear q661
               try clear q662
               obtain ⟨x23_5, rfl, HA, HK5, HO_16, HO_18, HO_20, BK618, BK623, HB⟩ := hrel
               cases gk with
               | zero => exact absurd HA.out (by simp [gambrellaw11_CodecLinear.l3])
               | succ k5 =>
                have H := HA.out
                clear HA
                simp only [gambrellaw11_CodecLinear.l3] at H
                by_cases c90 : x23_5 < (wrap64 ((wrap64 (Int.tdiv (wrap64 ((ji7) / t621)) 2)) * 2))
                ·rw [if_pos c90] at H
                 have c90b0 : decide (x23_5 < (wrap64 ((wrap64 (Int.tdiv (wrap64 ((ji7) / t621)) 2)) * 2))) = true := decide_eq_true c90
                 clear c90
                 by_cases c91 : 0 ≤ x22_3
                 ·rw [if_pos c91] at H
                  have c91b0 : decide (0 ≤ x22_3) = true := decide_eq_true c91
                  clear c91
                  by_cases c92 : x22_3 < (t656.length : Int)
                  ·rw [if_pos c92] at H
                   have c92b0 : decide (x22_3 < (t656.length : Int)) = true := decide_eq_true c92
                   clear c92
                   by_cases c93 : 0 ≤ x23_5
                   ·rw [if_pos c93] at H
                    have c93b0 : decide (0 ≤ x23_5) = true := decide_eq_true c93
                    clear c93
                    by_cases c94 : x23_5 < ((rd_L1 t656 x22_3).length : Int)
                    ·rw [if_pos c94] at H
                     have c94b0 : decide (x23_5 < ((rd_L1 t656 x22_3).length : Int)) = true := decide_eq_true c94
                     clear c94
                     by_cases c95 : x22_3 < (t648.length : Int)
                     ·rw [if_pos c95] at H
                      have c95b0 : decide (x22_3 < (t648.length : Int)) = true := decide_eq_true c95
                      clear c95
                      by_cases c96 : x23_5 < ((rd_L1 t648 x22_3).length : Int)
                      ·rw [if_pos c96] at H
                       have c96b0 : decide (x23_5 < ((rd_L1 t648 x22_3).length : Int)) = true := decide_eq_true c96
                       clear c96
                       by_cases c97 : x22_3 < (t652.length : Int)
                       ·rw [if_pos c97] at H
                        have c97b0 : decide (x22_3 < (t652.length : Int)) = true := decide_eq_true c97
                        clear c97
                        by_cases c98 : x23_5 < ((rd_L1 t652 x22_3).length : Int)
                        ·rw [if_pos c98] at H
                         have c98b0 : decide (x23_5 < ((rd_L1 t652 x22_3).length : Int)) = true := decide_eq_true c98
                         clear c98
                         by_cases c99 : (rd (rd_L1 t656 x22_3) x23_5) = (Go.bits .xor .u8 (rd (rd_L1 t648 x22_3) x23_5) (rd (rd_L1 t652 x22_3) x23_5))
                         ·rw [if_pos c99] at H
                          have c99b0 : ((rd (rd_L1 t656 x22_3) x23_5) == (Go.bits .xor .u8 (rd (rd_L1 t648 x22_3) x23_5) (rd (rd_L1 t652 x22_3) x23_5))) = true := beq_iff_eq.mpr c99
                          have c99b1 : ((rd (rd_L1 t656 x22_3) x23_5) != (Go.bits .xor .u8 (rd (rd_L1 t648 x22_3) x23_5) (rd (rd_L1 t652 x22_3) x23_5))) = false := bne_eq_false_iff_eq.mpr c99
                          clear c99
                          have H' := Aside0.mk H
                          clear H
                          try go_wp2
                          have n0_ := Aside0.mk (Kd.N_drew HO_16.out)
                          have n1_ := Aside0.mk (Kd.N_drew HO_18.out)
                          have n2_ := Aside0.mk (Kd.N_drew HO_20.out)
                          have n3_ := Aside0.mk (blk_drew BK618.out)
                          have n4_ := Aside0.mk (blk_drew BK623.out)
                          have n5_ := Aside0.mk (below_drew1 HB.out)
                          clear HO_16
                          clear HO_18
                          clear HO_20
                          clear BK618
                          clear BK623
                          clear HB
                          have HO_16 := n0_
                          have HO_18 := n1_
                          have HO_20 := n2_
                          have BK618 := n3_
                          have BK623 := n4_
                          have HB := n5_
                          clear n0_ n1_ n2_ n3_ n4_ n5_
                          obtain ⟨Ao101, co101, eo101⟩ := Kd.N_slice HO_20.out
                          (first | subst eo101 | (injection eo101 with f1_ f2_ f3_; have f4_ := f1_.symm; have f5_ := f3_.symm; clear f1_ f2_ f3_; subst f4_; subst f5_))
                          have p663 : 0 ≤ (x22_3 : Int) := of_decide_eq_true as_
                          have q663 : x22_3 < (t656.length : Int) := of_decide_eq_true as_
                          obtain ⟨ad663, A663_0, c663_0, e663, hx663_0, hl663_0, hi663_0⟩ := at_L1 (Kd.N_reads' HO_20.out).2.2 x22_3 p663 q663
                          cases e663
                          obtain ⟨ce663, hce663, hMe663, hcc663⟩ := Kd.N_get HO_20.out [] x22_3 p663 (by first | exact q663 | exact of_decide_eq_true as_ | (have e_ := (Kd.N_reads' HO_20.out).1; omega))
                          obtain ⟨ua663_0, uc663_0, rfl, ul663_0, ge663_0⟩ := Kd.FK_slice_open hMe663
                          have hv663_0 := hcc663 0 _ rfl
                          rw [Nat.add_zero, show ((Kd.slice 5 (Kd.int .u8))).sz = 1 from rfl, Nat.mul_one] at hv663_0
                          replace hv663_0 := Option.some.inj (hv663_0.symm.trans hx663_0)
                          injection hv663_0 with hva_ hvn_ hvc_
                          rw [hva_] at ge663_0
                          rw [hvc_] at ul663_0
                          have HL663_0 := Aside0.mk (show Kd.V (Kd.int .u8) 5 _ w.heap.size _ _ (rd_L1 t656 x22_3) from Kd.V_mk ul663_0 ge663_0)
                          clear hva_ hvn_ hvc_ ge663_0 ul663_0
                          clear hcc663 hce663
                          have HR663_0 := Aside0.mk hi663_0
                          have HC663_0 := Aside0.mk hl663_0
                          clear hi663_0 hl663_0
                          replace p663 := eq_true p663
                          replace q663 := eq_true q663
                          have p664 : 0 ≤ (x23_5 : Int) := of_decide_eq_true as_
                          have q664 : x23_5 < ((rd_L1 t656 x22_3).length : Int) := of_decide_eq_true as_
                          obtain ⟨ad664, e664, hx664_0⟩ := Kd.at_int (by repeat (first | (with_reducible exact HR663_0.out) | (with_reducible refine Kd.C_alloc ?_ _) | (with_reducible refine Kd.C_drewN ?_ _) | (with_reducible refine Kd.C_drew ?_) | exact HR663_0.out)) x23_5 p664 q664
                          cases e664
                          replace p664 := eq_true p664
                          replace q664 := eq_true q664
                          obtain ⟨Ao102, co102, eo102⟩ := Kd.N_slice HO_16.out
                          (first | subst eo102 | (injection eo102 with f1_ f2_ f3_; have f4_ := f1_.symm; have f5_ := f3_.symm; clear f1_ f2_ f3_; subst f4_; subst f5_))
                          have p665 : 0 ≤ (x22_3 : Int) := of_decide_eq_true as_
                          have q665 : x22_3 < (t648.length : Int) := of_decide_eq_true as_
                          obtain ⟨ad665, A665_0, c665_0, e665, hx665_0, hl665_0, hi665_0⟩ := at_L1 (Kd.N_reads' HO_16.out).2.2 x22_3 p665 q665
                          cases e665
                          obtain ⟨ce665, hce665, hMe665, hcc665⟩ := Kd.N_get HO_16.out [] x22_3 p665 (by first | exact q665 | exact of_decide_eq_true as_ | (have e_ := (Kd.N_reads' HO_16.out).1; omega))
                          obtain ⟨ua665_0, uc665_0, rfl, ul665_0, ge665_0⟩ := Kd.FK_slice_open hMe665
                          have hv665_0 := hcc665 0 _ rfl
                          rw [Nat.add_zero, show ((Kd.slice 5 (Kd.int .u8))).sz = 1 from rfl, Nat.mul_one] at hv665_0
                          replace hv665_0 := Option.some.inj (hv665_0.symm.trans hx665_0)
                          injection hv665_0 with hva_ hvn_ hvc_
                          rw [hva_] at ge665_0
                          rw [hvc_] at ul665_0
                          have HL665_0 := Aside0.mk (show Kd.V (Kd.int .u8) 5 _ w.heap.size _ _ (rd_L1 t648 x22_3) from Kd.V_mk ul665_0 ge665_0)
                          clear hva_ hvn_ hvc_ ge665_0 ul665_0
                          clear hcc665 hce665
                          have HR665_0 := Aside0.mk hi665_0
                          have HC665_0 := Aside0.mk hl665_0
                          clear hi665_0 hl665_0
                          replace p665 := eq_true p665
                          replace q665 := eq_true q665
                          have p666 : 0 ≤ (x23_5 : Int) := of_decide_eq_true as_
                          have q666 : x23_5 < ((rd_L1 t648 x22_3).length : Int) := of_decide_eq_true as_
                          obtain ⟨ad666, e666, hx666_0⟩ := Kd.at_int (by repeat (first | (with_reducible exact HR665_0.out) | (with_reducible refine Kd.C_alloc ?_ _) | (with_reducible refine Kd.C_drewN ?_ _) | (with_reducible refine Kd.C_drew ?_) | exact HR665_0.out)) x23_5 p666 q666
                          cases e666
                          replace p666 := eq_true p666
                          replace q666 := eq_true q666
                          obtain ⟨Ao103, co103, eo103⟩ := Kd.N_slice HO_18.out
                          (first | subst eo103 | (injection eo103 with f1_ f2_ f3_; have f4_ := f1_.symm; have f5_ := f3_.symm; clear f1_ f2_ f3_; subst f4_; subst f5_))
                          have p667 : 0 ≤ (x22_3 : Int) := of_decide_eq_true as_
                          have q667 : x22_3 < (t652.length : Int) := of_decide_eq_true as_
                          obtain ⟨ad667, A667_0, c667_0, e667, hx667_0, hl667_0, hi667_0⟩ := at_L1 (Kd.N_reads' HO_18.out).2.2 x22_3 p667 q667
                          cases e667
                          obtain ⟨ce667, hce667, hMe667, hcc667⟩ := Kd.N_get HO_18.out [] x22_3 p667 (by first | exact q667 | exact of_decide_eq_true as_ | (have e_ := (Kd.N_reads' HO_18.out).1; omega))
                          obtain ⟨ua667_0, uc667_0, rfl, ul667_0, ge667_0⟩ := Kd.FK_slice_open hMe667
                          have hv667_0 := hcc667 0 _ rfl
                          rw [Nat.add_zero, show ((Kd.slice 5 (Kd.int .u8))).sz = 1 from rfl, Nat.mul_one] at hv667_0
                          replace hv667_0 := Option.some.inj (hv667_0.symm.trans hx667_0)
                          injection hv667_0 with hva_ hvn_ hvc_
                          rw [hva_] at ge667_0
                          rw [hvc_] at ul667_0
                          have HL667_0 := Aside0.mk (show Kd.V (Kd.int .u8) 5 _ w.heap.size _ _ (rd_L1 t652 x22_3) from Kd.V_mk ul667_0 ge667_0)
                          clear hva_ hvn_ hvc_ ge667_0 ul667_0
                          clear hcc667 hce667
                          have HR667_0 := Aside0.mk hi667_0
                          have HC667_0 := Aside0.mk hl667_0
                          clear hi667_0 hl667_0
                          replace p667 := eq_true p667
                          replace q667 := eq_true q667
                          have p668 : 0 ≤ (x23_5 : Int) := of_decide_eq_true as_
                          have q668 : x23_5 < ((rd_L1 t652 x22_3).length : Int) := of_decide_eq_true as_
                          obtain ⟨ad668, e668, hx668_0⟩ := Kd.at_int (by repeat (first | (with_reducible exact HR667_0.out) | (with_reducible refine Kd.C_alloc ?_ _) | (with_reducible refine Kd.C_drewN ?_ _) | (with_reducible refine Kd.C_drew ?_) | exact HR667_0.out)) x23_5 p668 q668
                          cases e668
                          replace p668 := eq_true p668
                          replace q668 := eq_true q668
                          refine start_ (n := 23) (S := fun w' => w'.cell? (ad663.add (x22_3).toNat) = some (.slice (some ad664) (rd_L1 t656 x22_3).length c663_0) ∧ w'.cell? (ad664.add (x23_5).toNat) = some (.int .u8 (rd (rd_L1 t656 x22_3) x23_5)) ∧ w'.cell? (ad665.add (x22_3).toNat) = some (.slice (some ad666) (rd_L1 t648 x22_3).length c665_0) ∧ w'.cell? (ad666.add (x23_5).toNat) = some (.int .u8 (rd (rd_L1 t648 x22_3) x23_5)) ∧ w'.cell? (ad667.add (x22_3).toNat) = some (.slice (some ad668) (rd_L1 t652 x22_3).length c667_0) ∧ w'.cell? (ad668.add (x23_5).toNat) = some (.int .u8 (rd (rd_L1 t652 x22_3) x23_5))) (ds := []) (bA 23 0) kr_ rfl rfl ⟨hx663_0, hx664_0, hx665_0, hx666_0, hx667_0, hx668_0⟩ (fun hHeld => ?_); refine with_tabW gambrellaw11_CodecLinear.tab31 gambrellaw11_CodecLinear.bits31 (fun HT_ HW_ => ?_)
                          generalize wr.drew = w100 at HO_16 HO_18 HO_20 BK618 BK623 HB HL663_0 HL665_0 HL667_0 HR663_0 HR665_0 HR667_0 hx663_0 hx664_0 hx665_0 hx666_0 hx667_0 hx668_0 hHeld ⊢
                          refine pv_ 0 177 1 HT_ ?_
                          refine pv_ 1 178 3 HT_ ?_
                          refine pv_ 2 179 7 HT_ ?_
                          refine pv_ 4 181 23 HT_ ?_
                          refine pv_ 7 184 151 HT_ ?_
                          refine pv_ 8 185 407 HT_ ?_
                          refine pv_ 9 186 919 HT_ ?_
                          refine pv_ 11 188 2967 HT_ ?_
                          refine pv_ 14 191 19351 HT_ ?_
                          refine pv_ 15 192 52119 HT_ ?_
                          refine pv_ 16 193 117655 HT_ ?_
                          refine pv_ 18 195 379799 HT_ ?_
                          refine tw_ 3 180 379807 HT_ HW_ hHeld ?_
                          refine pv_ 5 182 379839 HT_ ?_
                          refine tw_ 6 183 379903 HT_ HW_ hHeld ?_
                          refine tw_ 10 187 380927 HT_ HW_ hHeld ?_
                          refine pv_ 12 189 385023 HT_ ?_
                          refine tw_ 13 190 393215 HT_ HW_ hHeld ?_
                          refine tw_ 17 194 524287 HT_ HW_ hHeld ?_
                          refine pv_ 19 196 1048575 HT_ ?_
                          refine tw_ 20 197 2097151 HT_ HW_ hHeld ?_
                          refine pv_ 21 198 4194303 HT_ ?_
                          refine pv_ 22 199 8388607 HT_ ?_
                          refine done_ (done_of HT_.out kr_) ?_
                          try go_wp2
                          (first | go_roundg k5 | (subst hji6; go_roundg k5) | (subst hji7; go_roundg k5))
                          case measure => have := HK1.out; have := HJ45.out; have := HK3.out; have := HJ73.out; have := HK5.out; omega
                          case rel => exact ⟨(wrap64 (x23_5 + 1)), sd_, H', ⟨by have := HK1.out; have := HJ45.out; have := HK3.out; have := HJ73.out; have := HK5.out; omega⟩, ⟨by (with_reducible repeat (first | apply Kd.N_alloc | apply Kd.N_drewN | apply Kd.N_drew)); exact HO_16.out⟩, ⟨by (with_reducible repeat (first | apply Kd.N_alloc | apply Kd.N_drewN | apply Kd.N_drew)); exact HO_18.out⟩, ⟨by (with_reducible repeat (first | apply Kd.N_alloc | apply Kd.N_drewN | apply Kd.N_drew)); exact HO_20.out⟩, ⟨bk_⟩, ⟨bk_⟩, ⟨bl_⟩⟩
                         ·rw [if_neg c99] at H
                          have c99b0 : ((rd (rd_L1 t656 x22_3) x23_5) == (Go.bits .xor .u8 (rd (rd_L1 t648 x22_3) x23_5) (rd (rd_L1 t652 x22_3) x23_5))) = false := beq_eq_false_iff_ne.mpr c99
                          have c99b1 : ((rd (rd_L1 t656 x22_3) x23_5) != (Go.bits .xor .u8 (rd (rd_L1 t648 x22_3) x23_5) (rd (rd_L1 t652 x22_3) x23_5))) = true := bne_iff_ne.mpr c99
                          exact absurd ((Option.some.inj H).trans hr_.out) (by simp)
                        ·rw [if_neg c98] at H
                         exact absurd H (by simp)
                       ·rw [if_neg c97] at H
                        exact absurd H (by simp)
                      ·rw [if_neg c96] at H
                       exact absurd H (by simp)
                     ·rw [if_neg c95] at H
                      exact absurd H (by simp)
                    ·rw [if_neg c94] at H
                     exact absurd H (by simp)
                   ·rw [if_neg c93] at H
                    exact absurd H (by simp)
                  ·rw [if_neg c92] at H
                   exact absurd H (by simp)
                 ·rw [if_neg c91] at H
                  exact absurd H (by simp)
                ·rw [if_neg c90] at H
                 have c90b0 : decide (x23_5 < (wrap64 ((wrap64 (Int.tdiv (wrap64 ((ji7) / t621)) 2)) * 2))) = false := decide_eq_false c90
                 clear c90
                 have H' := Aside0.mk H
                 clear H
                 go_wp2
                 (first | go_roundg k5 | (subst hji6; go_roundg k5) | (subst hji7; go_roundg k5))
                 case measure => have := HK1.out; have := HJ45.out; have := HK3.out; have := HJ73.out; have := HK5.out; omega
                 case rel => exact ⟨(wrap64 (x22_3 + 1)), sd_, H', ⟨by have := HK1.out; have := HJ45.out; have := HK3.out; have := HJ73.out; have := HK5.out; omega⟩, ⟨by (with_reducible repeat (first | apply Kd.N_alloc | apply Kd.N_drewN | apply Kd.N_drew)); exact HO_16.out⟩, ⟨by (with_reducible repeat (first | apply Kd.N_alloc | apply Kd.N_drewN | apply Kd.N_drew)); exact HO_18.out⟩, ⟨by (with_reducible repeat (first | apply Kd.N_alloc | apply Kd.N_drewN | apply Kd.N_drew)); exact HO_20.out⟩, ⟨bk_⟩, ⟨bk_⟩, ⟨bl_⟩⟩
          ·rw [if_neg c73] at H
           have c73b0 : decide (x22_3 < t622) = false := decide_eq_false c73
           clear c73
           obtain rfl := Option.some.inj H
           have hnb104 := NB623_618.out
           have hnc104 := NB618_623.out
           have hcz105_0 : wr.cell? ⟨gb623, 0, none⟩ = some (.int .i64 t620) := (blk_cell BK623.out 0).trans rfl
           have hcz105_1 : wr.cell? ⟨gb623, 1, none⟩ = some (.int .i64 t621) := (blk_cell BK623.out 1).trans rfl
           have hcz105_2 : wr.cell? ⟨gb623, 2, none⟩ = some (.int .i64 t622) := (blk_cell BK623.out 2).trans rfl
           have hfz105_0 := blk_frozen BK623.out 0
           have hfz105_1 := blk_frozen BK623.out 1
           have hfz105_2 := blk_frozen BK623.out 2
           go_wp2
           go_ret
           exact ⟨by first | rfl | (simp [errW_none, errW_some] <;> rfl) | (simp only [← hji6, ← hji7]; first | rfl | (simp [errW_none, errW_some] <;> rfl)) | (simp [*, errW_none, errW_some] <;> rfl), bl_⟩
end Go.Proofs.YtelcllhibpnneaaGreat.XCo
end
