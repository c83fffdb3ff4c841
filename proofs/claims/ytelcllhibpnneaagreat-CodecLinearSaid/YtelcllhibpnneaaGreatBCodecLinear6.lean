-- Joined by this work's own program (wip/tools/bundle.py) out of its texts: what this claim uses of them. Not trusted: Lean checks it.
import Derived.Test.YtelcllhibpnneaaGreatBCodecLinear5
section
namespace Go.Proofs.YtelcllhibpnneaaGreat.XCo
open Go.RowKit Go.Proofs.YtelcllhibpnneaaGreatW.PrintWords Go.Proofs.YtelcllhibpnneaaGreatW.PrintLast Go.Proofs.YtelcllhibpnneaaGreatW.PrintMore
attribute [local go_sem] max2_int min2_int max_two min_two max_three min_three max_four min_four
set_option linter.unusedVariables false
set_option linter.unusedSimpArgs false
def profile_May.f (a0_0 : Int) (a0_1 : Int) (a0_2 : Int) : Option (Bool) := (profile_Of.f a0_0).bind fun bt102 => (if bt102.2.2.2.2.2 = true then (if a0_1 ≥ 1 then (if a0_1 ≤ 8 then (if a0_2 ≥ 1 then (some (decide (a0_2 ≤ bt102.2.2.2.2.1))) else (some false)) else (some false)) else (some false)) else (some false))
set_option maxHeartbeats 8000000 in
set_option maxRecDepth 100000 in
theorem profile_May.calls (a0_0 : Int) (a0_1 : Int) (a0_2 : Int) (r : Bool) (w : World) (h : profile_May.f a0_0 a0_1 a0_2 = some r) :
  Calls Tryz.prog 44 #[.agg #[.int .i64 a0_0, .int .i64 a0_1, .int .i64 a0_2]] w fun e w' => e = .returned (.bool r) ∧ Below w.heap.size w w' := by
 have hu23 := Tryz.underlying23
 have hu103 := Tryz.underlying103
 have HB := Aside0.mk (Below.refl w.heap.size w)
 have H : ((profile_Of.f a0_0).bind fun bt102 => (if bt102.2.2.2.2.2 = true then (if a0_1 ≥ 1 then (if a0_1 ≤ 8 then (if a0_2 ≥ 1 then (some (decide (a0_2 ≤ bt102.2.2.2.2.1))) else (some false)) else (some false)) else (some false)) else (some false))) = some r := h
 clear h
 replace H := Option.bind_eq_some_iff.mp H
 obtain ⟨⟨t102, t103, t104, t105, t106, t107⟩, A20, H⟩ := H
 replace H : (if t107 = true then (if a0_1 ≥ 1 then (if a0_1 ≤ 8 then (if a0_2 ≥ 1 then (some (decide (a0_2 ≤ t106))) else (some false)) else (some false)) else (some false)) else (some false)) = some r := H
 have A2 := Aside0.mk A20
 clear A20
 by_cases c3 : t107 = true
 ·subst c3
  have H1 : (if a0_1 ≥ 1 then (if a0_1 ≤ 8 then (if a0_2 ≥ 1 then (some (decide (a0_2 ≤ t106))) else (some false)) else (some false)) else (some false)) = some r := by rw [if_pos rfl] at H; exact H
  clear H
  have H := H1
  clear H1
  by_cases c4 : a0_1 ≥ 1
  ·rw [if_pos c4] at H
   have c4b0 : decide (1 ≤ a0_1) = true := decide_eq_true c4
   clear c4
   by_cases c5 : a0_1 ≤ 8
   ·rw [if_pos c5] at H
    have c5b0 : decide (a0_1 ≤ 8) = true := decide_eq_true c5
    clear c5
    by_cases c6 : a0_2 ≥ 1
    ·rw [if_pos c6] at H
     have c6b0 : decide (1 ≤ a0_2) = true := decide_eq_true c6
     clear c6
     obtain rfl := Option.some.inj H
     go_enter Tryz.func44, Tryz.ntmps44
     go_wp2_with (first | ((with_reducible refine gate_dst (N := 1) rfl ?_); refine box_event ?hg (N := 1) ?hd (cs := #[.int .i64 a0_0, .int .i64 a0_1, .int .i64 a0_2]) (t := 23) ?hr ?_; (case hd => rfl); (case hg => rfl); (case hr => first | (go_simp; done) | (go_simp; rfl)); intro gb101 hg w7 hbox hb; have n0_ := Aside0.mk (below_step bl_ hb); have n1_ := Aside0.mk (hbox); have n2_ := Aside0.mk ((gs_ : w.heap.size ≤ gb101)); have n3_ := Aside0.mk ((gs_ : w.heap.size ≤ gb101)); clear HB; have HB := n0_; have BK101 := n1_; have GW101 := n2_; have GE101 := n3_; clear n0_ n1_ n2_ n3_; clear hb hbox hg; have hcz8_0 : w7.cell? ⟨gb101, 0, none⟩ = some (.int .i64 a0_0) := (blk_cell BK101.out 0).trans rfl; have hcz8_1 : w7.cell? ⟨gb101, 1, none⟩ = some (.int .i64 a0_1) := (blk_cell BK101.out 1).trans rfl; have hcz8_2 : w7.cell? ⟨gb101, 2, none⟩ = some (.int .i64 a0_2) := (blk_cell BK101.out 2).trans rfl; have hfz8_0 := blk_frozen BK101.out 0; have hfz8_1 := blk_frozen BK101.out 1; have hfz8_2 := blk_frozen BK101.out 2) | ((with_reducible refine gate_callee (f := 73) rfl ?_); refine goesL_ (some 8) rfl rfl Tryz.func73 kr_ rfl #[.int .i64 a0_0] rfl ar_ ?_; (with_reducible refine (profile_Of.calls a0_0 t102 t103 t104 t105 t106 true _ A2.out).mono ?_); rintro e w9 ⟨rfl, hb⟩; refine ⟨_, rfl, ?_⟩; have n0_ := Aside0.mk (blk_below (g := gb101) (o := .cells #[.int .i64 a0_0, .int .i64 a0_1, .int .i64 a0_2] 23 (0, 0)) bk_ hb); have n1_ := Aside0.mk (below_step bl_ hb); clear BK101; clear HB; have BK101 := n0_; have HB := n1_; clear n0_ n1_; (try clear hb); (try clear hb2); (try clear hk); (try clear hi)) | ((with_reducible refine gate_dst (N := 3) rfl ?_); refine box_event ?hg (N := 3) ?hd (cs := #[.string (⟨#[]⟩ : ByteArray), .int .i64 0, .int .u32 0, .int .u8 0, .int .i64 0]) (t := 103) ?hr ?_; (case hd => rfl); (case hg => rfl); (case hr => first | (go_simp; done) | (go_simp; rfl)); intro gb108 hg w10 hbox hb; have n0_ := Aside0.mk (blk_below (g := gb101) (o := .cells #[.int .i64 a0_0, .int .i64 a0_1, .int .i64 a0_2] 23 (0, 0)) bk_ hb); have n1_ := Aside0.mk (below_step bl_ hb); have n2_ := Aside0.mk (hbox); have n3_ := Aside0.mk ((gs_ : w.heap.size ≤ gb108)); have n4_ := Aside0.mk ((gs_ : w.heap.size ≤ gb108)); have n5_ := Aside0.mk ((by rw [hg]; exact Nat.ne_of_lt (blk_lt (g := gb101) (o := .cells #[.int .i64 a0_0, .int .i64 a0_1, .int .i64 a0_2] 23 (0, 0)) bk_) : gb101 ≠ gb108)); have n6_ := Aside0.mk ((by rw [hg]; exact Nat.ne_of_gt (blk_lt (g := gb101) (o := .cells #[.int .i64 a0_0, .int .i64 a0_1, .int .i64 a0_2] 23 (0, 0)) bk_) : gb108 ≠ gb101)); clear BK101; clear HB; have BK101 := n0_; have HB := n1_; have BK108 := n2_; have GW108 := n3_; have GE108 := n4_; have NB101_108 := n5_; have NB108_101 := n6_; clear n0_ n1_ n2_ n3_ n4_ n5_ n6_; clear hb hbox hg; have hnb11 := NB108_101.out; have hnc11 := NB101_108.out; have hcz12_0 : w10.cell? ⟨gb108, 0, none⟩ = some (.string (⟨#[]⟩ : ByteArray)) := (blk_cell BK108.out 0).trans rfl; have hcz12_1 : w10.cell? ⟨gb108, 1, none⟩ = some (.int .i64 0) := (blk_cell BK108.out 1).trans rfl; have hcz12_2 : w10.cell? ⟨gb108, 2, none⟩ = some (.int .u32 0) := (blk_cell BK108.out 2).trans rfl; have hcz12_3 : w10.cell? ⟨gb108, 3, none⟩ = some (.int .u8 0) := (blk_cell BK108.out 3).trans rfl; have hcz12_4 : w10.cell? ⟨gb108, 4, none⟩ = some (.int .i64 0) := (blk_cell BK108.out 4).trans rfl; have hfz12_0 := blk_frozen BK108.out 0; have hfz12_1 := blk_frozen BK108.out 1; have hfz12_2 := blk_frozen BK108.out 2; have hfz12_3 := blk_frozen BK108.out 3; have hfz12_4 := blk_frozen BK108.out 4; have hcz13_0 : w10.cell? ⟨gb101, 0, none⟩ = some (.int .i64 a0_0) := (blk_cell BK101.out 0).trans rfl; have hcz13_1 : w10.cell? ⟨gb101, 1, none⟩ = some (.int .i64 a0_1) := (blk_cell BK101.out 1).trans rfl; have hcz13_2 : w10.cell? ⟨gb101, 2, none⟩ = some (.int .i64 a0_2) := (blk_cell BK101.out 2).trans rfl; have hfz13_0 := blk_frozen BK101.out 0; have hfz13_1 := blk_frozen BK101.out 1; have hfz13_2 := blk_frozen BK101.out 2))
     go_ret
     exact ⟨er_, bl_⟩
    ·rw [if_neg c6] at H
     have c6b0 : decide (1 ≤ a0_2) = false := decide_eq_false c6
     clear c6
     obtain rfl := Option.some.inj H
     go_enter Tryz.func44, Tryz.ntmps44
     go_wp2_with (first | ((with_reducible refine gate_dst (N := 1) rfl ?_); refine box_event ?hg (N := 1) ?hd (cs := #[.int .i64 a0_0, .int .i64 a0_1, .int .i64 a0_2]) (t := 23) ?hr ?_; (case hd => rfl); (case hg => rfl); (case hr => first | (go_simp; done) | (go_simp; rfl)); intro gb101 hg w14 hbox hb; have n0_ := Aside0.mk (below_step bl_ hb); have n1_ := Aside0.mk (hbox); have n2_ := Aside0.mk ((gs_ : w.heap.size ≤ gb101)); have n3_ := Aside0.mk ((gs_ : w.heap.size ≤ gb101)); clear HB; have HB := n0_; have BK101 := n1_; have GW101 := n2_; have GE101 := n3_; clear n0_ n1_ n2_ n3_; clear hb hbox hg; have hcz15_0 : w14.cell? ⟨gb101, 0, none⟩ = some (.int .i64 a0_0) := (blk_cell BK101.out 0).trans rfl; have hcz15_1 : w14.cell? ⟨gb101, 1, none⟩ = some (.int .i64 a0_1) := (blk_cell BK101.out 1).trans rfl; have hcz15_2 : w14.cell? ⟨gb101, 2, none⟩ = some (.int .i64 a0_2) := (blk_cell BK101.out 2).trans rfl; have hfz15_0 := blk_frozen BK101.out 0; have hfz15_1 := blk_frozen BK101.out 1; have hfz15_2 := blk_frozen BK101.out 2) | ((with_reducible refine gate_callee (f := 73) rfl ?_); refine goesL_ (some 8) rfl rfl Tryz.func73 kr_ rfl #[.int .i64 a0_0] rfl ar_ ?_; (with_reducible refine (profile_Of.calls a0_0 t102 t103 t104 t105 t106 true _ A2.out).mono ?_); rintro e w16 ⟨rfl, hb⟩; refine ⟨_, rfl, ?_⟩; have n0_ := Aside0.mk (blk_below (g := gb101) (o := .cells #[.int .i64 a0_0, .int .i64 a0_1, .int .i64 a0_2] 23 (0, 0)) bk_ hb); have n1_ := Aside0.mk (below_step bl_ hb); clear BK101; clear HB; have BK101 := n0_; have HB := n1_; clear n0_ n1_; (try clear hb); (try clear hb2); (try clear hk); (try clear hi)) | ((with_reducible refine gate_dst (N := 3) rfl ?_); refine box_event ?hg (N := 3) ?hd (cs := #[.string (⟨#[]⟩ : ByteArray), .int .i64 0, .int .u32 0, .int .u8 0, .int .i64 0]) (t := 103) ?hr ?_; (case hd => rfl); (case hg => rfl); (case hr => first | (go_simp; done) | (go_simp; rfl)); intro gb108 hg w17 hbox hb; have n0_ := Aside0.mk (blk_below (g := gb101) (o := .cells #[.int .i64 a0_0, .int .i64 a0_1, .int .i64 a0_2] 23 (0, 0)) bk_ hb); have n1_ := Aside0.mk (below_step bl_ hb); have n2_ := Aside0.mk (hbox); have n3_ := Aside0.mk ((gs_ : w.heap.size ≤ gb108)); have n4_ := Aside0.mk ((gs_ : w.heap.size ≤ gb108)); have n5_ := Aside0.mk ((by rw [hg]; exact Nat.ne_of_lt (blk_lt (g := gb101) (o := .cells #[.int .i64 a0_0, .int .i64 a0_1, .int .i64 a0_2] 23 (0, 0)) bk_) : gb101 ≠ gb108)); have n6_ := Aside0.mk ((by rw [hg]; exact Nat.ne_of_gt (blk_lt (g := gb101) (o := .cells #[.int .i64 a0_0, .int .i64 a0_1, .int .i64 a0_2] 23 (0, 0)) bk_) : gb108 ≠ gb101)); clear BK101; clear HB; have BK101 := n0_; have HB := n1_; have BK108 := n2_; have GW108 := n3_; have GE108 := n4_; have NB101_108 := n5_; have NB108_101 := n6_; clear n0_ n1_ n2_ n3_ n4_ n5_ n6_; clear hb hbox hg; have hnb18 := NB108_101.out; have hnc18 := NB101_108.out; have hcz19_0 : w17.cell? ⟨gb108, 0, none⟩ = some (.string (⟨#[]⟩ : ByteArray)) := (blk_cell BK108.out 0).trans rfl; have hcz19_1 : w17.cell? ⟨gb108, 1, none⟩ = some (.int .i64 0) := (blk_cell BK108.out 1).trans rfl; have hcz19_2 : w17.cell? ⟨gb108, 2, none⟩ = some (.int .u32 0) := (blk_cell BK108.out 2).trans rfl; have hcz19_3 : w17.cell? ⟨gb108, 3, none⟩ = some (.int .u8 0) := (blk_cell BK108.out 3).trans rfl; have hcz19_4 : w17.cell? ⟨gb108, 4, none⟩ = some (.int .i64 0) := (blk_cell BK108.out 4).trans rfl; have hfz19_0 := blk_frozen BK108.out 0; have hfz19_1 := blk_frozen BK108.out 1; have hfz19_2 := blk_frozen BK108.out 2; have hfz19_3 := blk_frozen BK108.out 3; have hfz19_4 := blk_frozen BK108.out 4; have hcz20_0 : w17.cell? ⟨gb101, 0, none⟩ = some (.int .i64 a0_0) := (blk_cell BK101.out 0).trans rfl; have hcz20_1 : w17.cell? ⟨gb101, 1, none⟩ = some (.int .i64 a0_1) := (blk_cell BK101.out 1).trans rfl; have hcz20_2 : w17.cell? ⟨gb101, 2, none⟩ = some (.int .i64 a0_2) := (blk_cell BK101.out 2).trans rfl; have hfz20_0 := blk_frozen BK101.out 0; have hfz20_1 := blk_frozen BK101.out 1; have hfz20_2 := blk_frozen BK101.out 2))
     go_ret
     exact ⟨er_, bl_⟩
   ·rw [if_neg c5] at H
    have c5b0 : decide (a0_1 ≤ 8) = false := decide_eq_false c5
    clear c5
    obtain rfl := Option.some.inj H
    go_enter Tryz.func44, Tryz.ntmps44
    go_wp2_with (first | ((with_reducible refine gate_dst (N := 1) rfl ?_); refine box_event ?hg (N := 1) ?hd (cs := #[.int .i64 a0_0, .int .i64 a0_1, .int .i64 a0_2]) (t := 23) ?hr ?_; (case hd => rfl); (case hg => rfl); (case hr => first | (go_simp; done) | (go_simp; rfl)); intro gb101 hg w21 hbox hb; have n0_ := Aside0.mk (below_step bl_ hb); have n1_ := Aside0.mk (hbox); have n2_ := Aside0.mk ((gs_ : w.heap.size ≤ gb101)); have n3_ := Aside0.mk ((gs_ : w.heap.size ≤ gb101)); clear HB; have HB := n0_; have BK101 := n1_; have GW101 := n2_; have GE101 := n3_; clear n0_ n1_ n2_ n3_; clear hb hbox hg; have hcz22_0 : w21.cell? ⟨gb101, 0, none⟩ = some (.int .i64 a0_0) := (blk_cell BK101.out 0).trans rfl; have hcz22_1 : w21.cell? ⟨gb101, 1, none⟩ = some (.int .i64 a0_1) := (blk_cell BK101.out 1).trans rfl; have hcz22_2 : w21.cell? ⟨gb101, 2, none⟩ = some (.int .i64 a0_2) := (blk_cell BK101.out 2).trans rfl; have hfz22_0 := blk_frozen BK101.out 0; have hfz22_1 := blk_frozen BK101.out 1; have hfz22_2 := blk_frozen BK101.out 2) | ((with_reducible refine gate_callee (f := 73) rfl ?_); refine goesL_ (some 8) rfl rfl Tryz.func73 kr_ rfl #[.int .i64 a0_0] rfl ar_ ?_; (with_reducible refine (profile_Of.calls a0_0 t102 t103 t104 t105 t106 true _ A2.out).mono ?_); rintro e w23 ⟨rfl, hb⟩; refine ⟨_, rfl, ?_⟩; have n0_ := Aside0.mk (blk_below (g := gb101) (o := .cells #[.int .i64 a0_0, .int .i64 a0_1, .int .i64 a0_2] 23 (0, 0)) bk_ hb); have n1_ := Aside0.mk (below_step bl_ hb); clear BK101; clear HB; have BK101 := n0_; have HB := n1_; clear n0_ n1_; (try clear hb); (try clear hb2); (try clear hk); (try clear hi)) | ((with_reducible refine gate_dst (N := 3) rfl ?_); refine box_event ?hg (N := 3) ?hd (cs := #[.string (⟨#[]⟩ : ByteArray), .int .i64 0, .int .u32 0, .int .u8 0, .int .i64 0]) (t := 103) ?hr ?_; (case hd => rfl); (case hg => rfl); (case hr => first | (go_simp; done) | (go_simp; rfl)); intro gb108 hg w24 hbox hb; have n0_ := Aside0.mk (blk_below (g := gb101) (o := .cells #[.int .i64 a0_0, .int .i64 a0_1, .int .i64 a0_2] 23 (0, 0)) bk_ hb); have n1_ := Aside0.mk (below_step bl_ hb); have n2_ := Aside0.mk (hbox); have n3_ := Aside0.mk ((gs_ : w.heap.size ≤ gb108)); have n4_ := Aside0.mk ((gs_ : w.heap.size ≤ gb108)); have n5_ := Aside0.mk ((by rw [hg]; exact Nat.ne_of_lt (blk_lt (g := gb101) (o := .cells #[.int .i64 a0_0, .int .i64 a0_1, .int .i64 a0_2] 23 (0, 0)) bk_) : gb101 ≠ gb108)); have n6_ := Aside0.mk ((by rw [hg]; exact Nat.ne_of_gt (blk_lt (g := gb101) (o := .cells #[.int .i64 a0_0, .int .i64 a0_1, .int .i64 a0_2] 23 (0, 0)) bk_) : gb108 ≠ gb101)); clear BK101; clear HB; have BK101 := n0_; have HB := n1_; have BK108 := n2_; have GW108 := n3_; have GE108 := n4_; have NB101_108 := n5_; have NB108_101 := n6_; clear n0_ n1_ n2_ n3_ n4_ n5_ n6_; clear hb hbox hg; have hnb25 := NB108_101.out; have hnc25 := NB101_108.out; have hcz26_0 : w24.cell? ⟨gb108, 0, none⟩ = some (.string (⟨#[]⟩ : ByteArray)) := (blk_cell BK108.out 0).trans rfl; have hcz26_1 : w24.cell? ⟨gb108, 1, none⟩ = some (.int .i64 0) := (blk_cell BK108.out 1).trans rfl; have hcz26_2 : w24.cell? ⟨gb108, 2, none⟩ = some (.int .u32 0) := (blk_cell BK108.out 2).trans rfl; have hcz26_3 : w24.cell? ⟨gb108, 3, none⟩ = some (.int .u8 0) := (blk_cell BK108.out 3).trans rfl; have hcz26_4 : w24.cell? ⟨gb108, 4, none⟩ = some (.int .i64 0) := (blk_cell BK108.out 4).trans rfl; have hfz26_0 := blk_frozen BK108.out 0; have hfz26_1 := blk_frozen BK108.out 1; have hfz26_2 := blk_frozen BK108.out 2; have hfz26_3 := blk_frozen BK108.out 3; have hfz26_4 := blk_frozen BK108.out 4; have hcz27_0 : w24.cell? ⟨gb101, 0, none⟩ = some (.int .i64 a0_0) := (blk_cell BK101.out 0).trans rfl; have hcz27_1 : w24.cell? ⟨gb101, 1, none⟩ = some (.int .i64 a0_1) := (blk_cell BK101.out 1).trans rfl; have hcz27_2 : w24.cell? ⟨gb101, 2, none⟩ = some (.int .i64 a0_2) := (blk_cell BK101.out 2).trans rfl; have hfz27_0 := blk_frozen BK101.out 0; have hfz27_1 := blk_frozen BK101.out 1; have hfz27_2 := blk_frozen BK101.out 2))
    go_ret
    exact ⟨er_, bl_⟩
  ·rw [if_neg c4] at H
   have c4b0 : decide (1 ≤ a0_1) = false := decide_eq_false c4
   clear c4
   obtain rfl := Option.some.inj H
   go_enter Tryz.func44, Tryz.ntmps44
   go_wp2_with (first | ((with_reducible refine gate_dst (N := 1) rfl ?_); refine box_event ?hg (N := 1) ?hd (cs := #[.int .i64 a0_0, .int .i64 a0_1, .int .i64 a0_2]) (t := 23) ?hr ?_; (case hd => rfl); (case hg => rfl); (case hr => first | (go_simp; done) | (go_simp; rfl)); intro gb101 hg w28 hbox hb; have n0_ := Aside0.mk (below_step bl_ hb); have n1_ := Aside0.mk (hbox); have n2_ := Aside0.mk ((gs_ : w.heap.size ≤ gb101)); have n3_ := Aside0.mk ((gs_ : w.heap.size ≤ gb101)); clear HB; have HB := n0_; have BK101 := n1_; have GW101 := n2_; have GE101 := n3_; clear n0_ n1_ n2_ n3_; clear hb hbox hg; have hcz29_0 : w28.cell? ⟨gb101, 0, none⟩ = some (.int .i64 a0_0) := (blk_cell BK101.out 0).trans rfl; have hcz29_1 : w28.cell? ⟨gb101, 1, none⟩ = some (.int .i64 a0_1) := (blk_cell BK101.out 1).trans rfl; have hcz29_2 : w28.cell? ⟨gb101, 2, none⟩ = some (.int .i64 a0_2) := (blk_cell BK101.out 2).trans rfl; have hfz29_0 := blk_frozen BK101.out 0; have hfz29_1 := blk_frozen BK101.out 1; have hfz29_2 := blk_frozen BK101.out 2) | ((with_reducible refine gate_callee (f := 73) rfl ?_); refine goesL_ (some 8) rfl rfl Tryz.func73 kr_ rfl #[.int .i64 a0_0] rfl ar_ ?_; (with_reducible refine (profile_Of.calls a0_0 t102 t103 t104 t105 t106 true _ A2.out).mono ?_); rintro e w30 ⟨rfl, hb⟩; refine ⟨_, rfl, ?_⟩; have n0_ := Aside0.mk (blk_below (g := gb101) (o := .cells #[.int .i64 a0_0, .int .i64 a0_1, .int .i64 a0_2] 23 (0, 0)) bk_ hb); have n1_ := Aside0.mk (below_step bl_ hb); clear BK101; clear HB; have BK101 := n0_; have HB := n1_; clear n0_ n1_; (try clear hb); (try clear hb2); (try clear hk); (try clear hi)) | ((with_reducible refine gate_dst (N := 3) rfl ?_); refine box_event ?hg (N := 3) ?hd (cs := #[.string (⟨#[]⟩ : ByteArray), .int .i64 0, .int .u32 0, .int .u8 0, .int .i64 0]) (t := 103) ?hr ?_; (case hd => rfl); (case hg => rfl); (case hr => first | (go_simp; done) | (go_simp; rfl)); intro gb108 hg w31 hbox hb; have n0_ := Aside0.mk (blk_below (g := gb101) (o := .cells #[.int .i64 a0_0, .int .i64 a0_1, .int .i64 a0_2] 23 (0, 0)) bk_ hb); have n1_ := Aside0.mk (below_step bl_ hb); have n2_ := Aside0.mk (hbox); have n3_ := Aside0.mk ((gs_ : w.heap.size ≤ gb108)); have n4_ := Aside0.mk ((gs_ : w.heap.size ≤ gb108)); have n5_ := Aside0.mk ((by rw [hg]; exact Nat.ne_of_lt (blk_lt (g := gb101) (o := .cells #[.int .i64 a0_0, .int .i64 a0_1, .int .i64 a0_2] 23 (0, 0)) bk_) : gb101 ≠ gb108)); have n6_ := Aside0.mk ((by rw [hg]; exact Nat.ne_of_gt (blk_lt (g := gb101) (o := .cells #[.int .i64 a0_0, .int .i64 a0_1, .int .i64 a0_2] 23 (0, 0)) bk_) : gb108 ≠ gb101)); clear BK101; clear HB; have BK101 := n0_; have HB := n1_; have BK108 := n2_; have GW108 := n3_; have GE108 := n4_; have NB101_108 := n5_; have NB108_101 := n6_; clear n0_ n1_ n2_ n3_ n4_ n5_ n6_; clear hb hbox hg; have hnb32 := NB108_101.out; have hnc32 := NB101_108.out; have hcz33_0 : w31.cell? ⟨gb108, 0, none⟩ = some (.string (⟨#[]⟩ : ByteArray)) := (blk_cell BK108.out 0).trans rfl; have hcz33_1 : w31.cell? ⟨gb108, 1, none⟩ = some (.int .i64 0) := (blk_cell BK108.out 1).trans rfl; have hcz33_2 : w31.cell? ⟨gb108, 2, none⟩ = some (.int .u32 0) := (blk_cell BK108.out 2).trans rfl; have hcz33_3 : w31.cell? ⟨gb108, 3, none⟩ = some (.int .u8 0) := (blk_cell BK108.out 3).trans rfl; have hcz33_4 : w31.cell? ⟨gb108, 4, none⟩ = some (.int .i64 0) := (blk_cell BK108.out 4).trans rfl; have hfz33_0 := blk_frozen BK108.out 0; have hfz33_1 := blk_frozen BK108.out 1; have hfz33_2 := blk_frozen BK108.out 2; have hfz33_3 := blk_frozen BK108.out 3; have hfz33_4 := blk_frozen BK108.out 4; have hcz34_0 : w31.cell? ⟨gb101, 0, none⟩ = some (.int .i64 a0_0) := (blk_cell BK101.out 0).trans rfl; have hcz34_1 : w31.cell? ⟨gb101, 1, none⟩ = some (.int .i64 a0_1) := (blk_cell BK101.out 1).trans rfl; have hcz34_2 : w31.cell? ⟨gb101, 2, none⟩ = some (.int .i64 a0_2) := (blk_cell BK101.out 2).trans rfl; have hfz34_0 := blk_frozen BK101.out 0; have hfz34_1 := blk_frozen BK101.out 1; have hfz34_2 := blk_frozen BK101.out 2))
   go_ret
   exact ⟨er_, bl_⟩
 ·replace c3 := Bool.eq_false_iff.mpr c3
  subst c3
  have H1 : (some false) = some r := by rw [if_neg (show ¬ (false = true) by decide)] at H; exact H
  clear H
  have H := H1
  clear H1
  obtain rfl := Option.some.inj H
  go_enter Tryz.func44, Tryz.ntmps44
  go_wp2_with (first | ((with_reducible refine gate_dst (N := 1) rfl ?_); refine box_event ?hg (N := 1) ?hd (cs := #[.int .i64 a0_0, .int .i64 a0_1, .int .i64 a0_2]) (t := 23) ?hr ?_; (case hd => rfl); (case hg => rfl); (case hr => first | (go_simp; done) | (go_simp; rfl)); intro gb101 hg w35 hbox hb; have n0_ := Aside0.mk (below_step bl_ hb); have n1_ := Aside0.mk (hbox); have n2_ := Aside0.mk ((gs_ : w.heap.size ≤ gb101)); have n3_ := Aside0.mk ((gs_ : w.heap.size ≤ gb101)); clear HB; have HB := n0_; have BK101 := n1_; have GW101 := n2_; have GE101 := n3_; clear n0_ n1_ n2_ n3_; clear hb hbox hg; have hcz36_0 : w35.cell? ⟨gb101, 0, none⟩ = some (.int .i64 a0_0) := (blk_cell BK101.out 0).trans rfl; have hcz36_1 : w35.cell? ⟨gb101, 1, none⟩ = some (.int .i64 a0_1) := (blk_cell BK101.out 1).trans rfl; have hcz36_2 : w35.cell? ⟨gb101, 2, none⟩ = some (.int .i64 a0_2) := (blk_cell BK101.out 2).trans rfl; have hfz36_0 := blk_frozen BK101.out 0; have hfz36_1 := blk_frozen BK101.out 1; have hfz36_2 := blk_frozen BK101.out 2) | ((with_reducible refine gate_callee (f := 73) rfl ?_); refine goesL_ (some 8) rfl rfl Tryz.func73 kr_ rfl #[.int .i64 a0_0] rfl ar_ ?_; (with_reducible refine (profile_Of.calls a0_0 t102 t103 t104 t105 t106 false _ A2.out).mono ?_); rintro e w37 ⟨rfl, hb⟩; refine ⟨_, rfl, ?_⟩; have n0_ := Aside0.mk (blk_below (g := gb101) (o := .cells #[.int .i64 a0_0, .int .i64 a0_1, .int .i64 a0_2] 23 (0, 0)) bk_ hb); have n1_ := Aside0.mk (below_step bl_ hb); clear BK101; clear HB; have BK101 := n0_; have HB := n1_; clear n0_ n1_; (try clear hb); (try clear hb2); (try clear hk); (try clear hi)) | ((with_reducible refine gate_dst (N := 3) rfl ?_); refine box_event ?hg (N := 3) ?hd (cs := #[.string (⟨#[]⟩ : ByteArray), .int .i64 0, .int .u32 0, .int .u8 0, .int .i64 0]) (t := 103) ?hr ?_; (case hd => rfl); (case hg => rfl); (case hr => first | (go_simp; done) | (go_simp; rfl)); intro gb108 hg w38 hbox hb; have n0_ := Aside0.mk (blk_below (g := gb101) (o := .cells #[.int .i64 a0_0, .int .i64 a0_1, .int .i64 a0_2] 23 (0, 0)) bk_ hb); have n1_ := Aside0.mk (below_step bl_ hb); have n2_ := Aside0.mk (hbox); have n3_ := Aside0.mk ((gs_ : w.heap.size ≤ gb108)); have n4_ := Aside0.mk ((gs_ : w.heap.size ≤ gb108)); have n5_ := Aside0.mk ((by rw [hg]; exact Nat.ne_of_lt (blk_lt (g := gb101) (o := .cells #[.int .i64 a0_0, .int .i64 a0_1, .int .i64 a0_2] 23 (0, 0)) bk_) : gb101 ≠ gb108)); have n6_ := Aside0.mk ((by rw [hg]; exact Nat.ne_of_gt (blk_lt (g := gb101) (o := .cells #[.int .i64 a0_0, .int .i64 a0_1, .int .i64 a0_2] 23 (0, 0)) bk_) : gb108 ≠ gb101)); clear BK101; clear HB; have BK101 := n0_; have HB := n1_; have BK108 := n2_; have GW108 := n3_; have GE108 := n4_; have NB101_108 := n5_; have NB108_101 := n6_; clear n0_ n1_ n2_ n3_ n4_ n5_ n6_; clear hb hbox hg; have hnb39 := NB108_101.out; have hnc39 := NB101_108.out; have hcz40_0 : w38.cell? ⟨gb108, 0, none⟩ = some (.string (⟨#[]⟩ : ByteArray)) := (blk_cell BK108.out 0).trans rfl; have hcz40_1 : w38.cell? ⟨gb108, 1, none⟩ = some (.int .i64 0) := (blk_cell BK108.out 1).trans rfl; have hcz40_2 : w38.cell? ⟨gb108, 2, none⟩ = some (.int .u32 0) := (blk_cell BK108.out 2).trans rfl; have hcz40_3 : w38.cell? ⟨gb108, 3, none⟩ = some (.int .u8 0) := (blk_cell BK108.out 3).trans rfl; have hcz40_4 : w38.cell? ⟨gb108, 4, none⟩ = some (.int .i64 0) := (blk_cell BK108.out 4).trans rfl; have hfz40_0 := blk_frozen BK108.out 0; have hfz40_1 := blk_frozen BK108.out 1; have hfz40_2 := blk_frozen BK108.out 2; have hfz40_3 := blk_frozen BK108.out 3; have hfz40_4 := blk_frozen BK108.out 4))
  go_ret
  exact ⟨er_, bl_⟩
mutual
def region_sum.l0 : Nat → List Int → List (List Int) → Int → Int → Option (List Int × Int)
 | 0, _, _, _, _ => none
 | k + 1, x4, x14, x15, x16 => if x16 < x15 then (if 0 ≤ x16 then (if x16 < (x14.length : Int) then (if ((rd_L1 x14 x16).length : Int) = (x4.length : Int) then (region_sum.l1 k x4 x14 x15 x16 (rd_L1 x14 x16) ((rd_L1 x14 x16).length : Int) 0) else (some (([] : List Int), 1))) else (none)) else (none)) else (some (x4, 0))
def region_sum.l1 : Nat → List Int → List (List Int) → Int → Int → List Int → Int → Int → Option (List Int × Int)
 | 0, _, _, _, _, _, _, _ => none
 | k + 1, x4, x14, x15, x16, x25, x26, x27 => if x27 < x26 then (if 0 ≤ x27 then (if x27 < (x25.length : Int) then (if x27 < (x4.length : Int) then (region_sum.l1 k (x4.set (x27 : Int).toNat (Go.bits .xor .u8 (rd x4 x27) (rd x25 x27))) x14 x15 x16 x25 x26 (wrap64 (x27 + 1))) else (none)) else (none)) else (none)) else (region_sum.l0 k x4 x14 x15 (wrap64 (x16 + 1)))
end
def region_sum.f (k : Nat) (l0 : List (List Int)) : Option (List Int × Int) := if 0 < (l0.length : Int) then (if 0 ≤ ((rd_L1 l0 0).length : Int) then (if (((rd_L1 l0 0).length : Int) : Int).toNat ≤ 281474976710656 then (region_sum.l0 k (List.replicate (((rd_L1 l0 0).length : Int) : Int).toNat 0) l0 (l0.length : Int) 0) else (none)) else (none)) else (none)
theorem region_sum.mono_l : ∀ k, (∀ y0 y1 y2 y3, LeO (region_sum.l0 k y0 y1 y2 y3) (region_sum.l0 (k + 1) y0 y1 y2 y3)) ∧ (∀ y0 y1 y2 y3 y4 y5 y6, LeO (region_sum.l1 k y0 y1 y2 y3 y4 y5 y6) (region_sum.l1 (k + 1) y0 y1 y2 y3 y4 y5 y6))
 | 0 => ⟨fun _ _ _ _ r h => by simp [region_sum.l0] at h, fun _ _ _ _ _ _ _ r h => by simp [region_sum.l1] at h⟩
 | k + 1 => by
  obtain ⟨ih0, ih1⟩ := region_sum.mono_l k
  refine ⟨?_, ?_⟩
  ·intro y0 y1 y2 y3
   unfold region_sum.l0
   repeat' first
   | (with_reducible exact ih0 _ _ _ _)
   | (with_reducible exact ih1 _ _ _ _ _ _ _)
   | (with_reducible exact LeO.refl _)
   | (with_reducible exact LeO.none _)
   | (with_reducible refine LeO.ite ?_ ?_)
   | (with_reducible refine LeO.bind ?_ (fun _ => ?_))
   | exact ih0 _ _ _ _
   | exact ih1 _ _ _ _ _ _ _
   | exact LeO.none _
   | refine LeO.ite ?_ ?_
   | refine LeO.bind ?_ (fun _ => ?_)
  ·intro y0 y1 y2 y3 y4 y5 y6
   unfold region_sum.l1
   repeat' first
   | (with_reducible exact ih0 _ _ _ _)
   | (with_reducible exact ih1 _ _ _ _ _ _ _)
   | (with_reducible exact LeO.refl _)
   | (with_reducible exact LeO.none _)
   | (with_reducible refine LeO.ite ?_ ?_)
   | (with_reducible refine LeO.bind ?_ (fun _ => ?_))
   | exact ih0 _ _ _ _
   | exact ih1 _ _ _ _ _ _ _
   | exact LeO.none _
   | refine LeO.ite ?_ ?_
   | refine LeO.bind ?_ (fun _ => ?_)
theorem region_sum.mono : ∀ a0 k, LeO (region_sum.f k a0) (region_sum.f (k + 1) a0) := by
 intro a0 k
 obtain ⟨ih0, ih1⟩ := region_sum.mono_l k
 unfold region_sum.f
 repeat' first
   | (with_reducible exact ih0 _ _ _ _)
   | (with_reducible exact ih1 _ _ _ _ _ _ _)
   | (with_reducible exact LeO.refl _)
   | (with_reducible exact LeO.none _)
   | (with_reducible refine LeO.ite ?_ ?_)
   | (with_reducible refine LeO.bind ?_ (fun _ => ?_))
   | exact ih0 _ _ _ _
   | exact ih1 _ _ _ _ _ _ _
   | exact LeO.none _
   | refine LeO.ite ?_ ?_
   | refine LeO.bind ?_ (fun _ => ?_)
set_option maxHeartbeats 8000000 in
set_option maxRecDepth 100000 in
theorem region_sum.calls (k : Nat) (A0 : Option Addr) (c0 : Nat) (l0 : List (List Int)) (r1 : List Int) (r2 : Int) (w : World) (hr0 : Kd.C (Kd.slice 5 (Kd.int .u8)) w A0 l0.length l0) (hc0 : l0.length ≤ c0) (h : region_sum.f k l0 = some (r1, r2)) :
  Calls Tryz.prog 75 #[.slice A0 l0.length c0] w fun e w' => ∃ v0_ : Value, e = .returned (.tuple #[v0_, .int .i64 r2]) ∧ Kd.R (Kd.int .u8) 5 w' w.heap.size (fun _ => True) v0_ r1 ∧ Below w.heap.size w w' := by
 have HR0 := Aside0.mk hr0
 have HC0 := Aside0.mk hc0
 clear hr0 hc0
 have HB := Aside0.mk (Below.refl w.heap.size w)
 have H : (if 0 < (l0.length : Int) then (if 0 ≤ ((rd_L1 l0 0).length : Int) then (if (((rd_L1 l0 0).length : Int) : Int).toNat ≤ 281474976710656 then (region_sum.l0 k (List.replicate (((rd_L1 l0 0).length : Int) : Int).toNat 0) l0 (l0.length : Int) 0) else (none)) else (none)) else (none)) = some (r1, r2) := h
 clear h
 by_cases c2 : 0 < (l0.length : Int)
 ·rw [if_pos c2] at H
  have c2b0 : decide (0 < (l0.length : Int)) = true := decide_eq_true c2
  have c2b1 : decide (0 < l0.length) = true := decide_eq_true (by omega)
  clear c2
  by_cases c3 : 0 ≤ ((rd_L1 l0 0).length : Int)
  ·rw [if_pos c3] at H
   have c3b0 := eq_true c3
   have c3b1 : decide (0 ≤ ((rd_L1 l0 0).length : Int)) = true := decide_eq_true c3
   clear c3
   by_cases c4 : (((rd_L1 l0 0).length : Int) : Int).toNat ≤ 281474976710656
   ·rw [if_pos c4] at H
    have c4b0 := eq_true c4
    have c4b1 : decide ((((rd_L1 l0 0).length : Int) : Int).toNat ≤ 281474976710656) = true := decide_eq_true c4
    clear c4
    obtain ⟨y110, hy110⟩ : ∃ y_ : List Int, y_ = (List.replicate (((rd_L1 l0 0).length : Int) : Int).toNat 0) := ⟨_, rfl⟩
    replace H : (region_sum.l0 k y110 l0 (l0.length : Int) 0) = some (r1, r2) := by first | (rw [hy110]; with_reducible exact H) | (have H2_ := (Option.bind_some _ _).symm.trans H; rw [hy110]; with_reducible exact H2_) | (have H2_ := (Option.bind_some _ _).symm.trans H; with_reducible exact H2_) | with_reducible exact H | (rw [hy110]; exact H) | exact H
    have Ny110 := Aside0.mk hy110
    clear hy110
    have H' := Aside0.mk H
    clear H
    have p109 : 0 ≤ (0 : Int) := (by omega)
    have q109 : 0 < (l0.length : Int) := of_decide_eq_true as_
    obtain ⟨ad109, A109_0, c109_0, e109, hx109_0, hl109_0, hi109_0⟩ := at_L1 HR0.out 0 p109 q109
    cases e109
    have qi109 : (0 < l0.length) = True := eq_true (by omega)
    (try rw [show ((0 : Int)).toNat = 0 from rfl] at hx109_0)
    (try rw [Addr.add_zero'] at hx109_0)
    have HR109_0 := Aside0.mk hi109_0
    have HC109_0 := Aside0.mk hl109_0
    clear hi109_0 hl109_0
    replace p109 := eq_true p109
    replace q109 := eq_true q109
    go_enter Tryz.func75, Tryz.ntmps75
    go_wp2_with (first | ((with_reducible refine gate_dst (N := 13) rfl ?_); refine Kd.R_make (Kd.int .u8) _ 5 rfl (N := 13) rfl 34 _ _ rfl ((rd_L1 l0 0).length : Int) rfl rfl Tryz.underlying34 (.int .u8 0) 1 info5 rfl (by decide) (by omega) 0 (ok := fun _ => True) (okp := fun _ => True) rfl (fun _ hk => hk) trivial (of_decide_eq_true as_) (Nat.le_trans (Nat.mul_le_mul_right _ (of_decide_eq_true as_ : ((rd_L1 l0 0).length : Int).toNat ≤ 281474976710656)) (by omega)) (Below.refl _ _) (Nat.le_refl _) ?_; intro v111 w5 ho6 hb hg_ hnew_; clear hg_ hnew_; (first | rw [← Ny110.out] at ho6 | (simp only [Int.reduceToNat] at ho6; rw [← Ny110.out] at ho6)); have n0_ := Aside0.mk (Kd.R_lower ho6 (below_size bl_)); have n1_ := Aside0.mk (below_step bl_ hb); clear HB; have HO112 := n0_; have HB := n1_; clear n0_ n1_; clear hb ho6))
    go_loopg [16] k (fun kq v16 w' => ∃ (x4_1 : List Int) (x16_1 : Int), v16 = .int .i64 x16_1 ∧ Aside0 (region_sum.l0 kq x4_1 l0 (l0.length : Int) x16_1 = some (r1, r2)) ∧ Aside0 (kq ≤ k) ∧ Aside0 (Kd.R (Kd.int .u8) 5 w' w.heap.size (fun _ => True) v111 x4_1) ∧ Aside0 (Below w.heap.size w w'))
    case atStart => exact ⟨(y110), (0), sd_, H', ⟨Nat.le_refl _⟩, ⟨by (with_reducible repeat (first | apply Kd.R_alloc | apply Kd.R_drewN | apply Kd.R_drew)); exact HO112.out⟩, ⟨bl_⟩⟩
    case round =>
     clear H'
     try clear c1
     try clear p1
     try clear q1
     try clear hx1
     try clear qi1
     try clear c2
     try clear c2b0
     try clear c2b1
     try clear p2
     try clear c3
     try clear c3b0
     try clear c3b1
     try clear c4
     try clear c4b0
     try clear c4b1
     try clear hx109_0
     try clear p109
     try clear q109
     obtain ⟨x4_1, x16_1, rfl, HA, HK1, HO_4, HB⟩ := hrel
     cases gk with
     | zero => exact absurd HA.out (by simp [region_sum.l0])
     | succ k1 =>
      have H := HA.out
      clear HA
      simp only [region_sum.l0] at H
      by_cases c7 : x16_1 < (l0.length : Int)
      ·rw [if_pos c7] at H
       have c7b0 : decide (x16_1 < (l0.length : Int)) = true := decide_eq_true c7
       clear c7
       by_cases c8 : 0 ≤ x16_1
       ·rw [if_pos c8] at H
        have c8b0 : decide (0 ≤ x16_1) = true := decide_eq_true c8
        clear c8
        by_cases c9 : x16_1 < (l0.length : Int)
        ·rw [if_pos c9] at H
         have c9b0 : decide (x16_1 < (l0.length : Int)) = true := decide_eq_true c9
         clear c9
         by_cases c10 : ((rd_L1 l0 x16_1).length : Int) = (x4_1.length : Int)
         ·rw [if_pos c10] at H
          have c10b0 : (((rd_L1 l0 x16_1).length : Int) == (x4_1.length : Int)) = true := beq_iff_eq.mpr c10
          have c10b1 : (((rd_L1 l0 x16_1).length : Int) != (x4_1.length : Int)) = false := bne_eq_false_iff_eq.mpr c10
          have c10b2 : ((rd_L1 l0 x16_1).length == x4_1.length) = true := by first | simpa using c10 | (simp at c10 ⊢; omega)
          clear c10
          have H' := Aside0.mk H
          clear H
          have p113 : 0 ≤ (x16_1 : Int) := of_decide_eq_true as_
          have q113 : x16_1 < (l0.length : Int) := of_decide_eq_true as_
          obtain ⟨ad113, A113_0, c113_0, e113, hx113_0, hl113_0, hi113_0⟩ := at_L1 HR0.out x16_1 p113 q113
          obtain rfl : ad109 = ad113 := (by injection e113)
          replace hx113_0 := (HB.out.cell (World.block_lt_of_cell? w _ hx113_0)).trans hx113_0
          have HR113_0 := Aside0.mk hi113_0
          have HC113_0 := Aside0.mk hl113_0
          clear hi113_0 hl113_0
          replace p113 := eq_true p113
          replace q113 := eq_true q113
          obtain ⟨Ao11, co11, eo11⟩ := Kd.R_slice HO_4.out
          subst eo11
          go_wp2
          go_loopg [27] k1 (fun kq v27 w' => ∃ (x4_2 : List Int) (x27_2 : Int), v27 = .int .i64 x27_2 ∧ Aside0 (region_sum.l1 kq x4_2 l0 (l0.length : Int) x16_1 (rd_L1 l0 x16_1) ((rd_L1 l0 x16_1).length : Int) x27_2 = some (r1, r2)) ∧ Aside0 (kq ≤ k1) ∧ Aside0 (Kd.R (Kd.int .u8) 5 w' w.heap.size (fun _ => True) (.slice Ao11 x4_1.length co11) x4_2) ∧ Aside0 (Below w.heap.size w w'))
          case atStart => exact ⟨(x4_1), (0), sd_, H', ⟨Nat.le_refl _⟩, ⟨by (with_reducible repeat (first | apply Kd.R_alloc | apply Kd.R_drewN | apply Kd.R_drew)); exact HO_4.out⟩, ⟨bl_⟩⟩
          case round =>
           clear H'
           try clear c1
           try clear p1
           try clear q1
           try clear hx1
           try clear qi1
           try clear c2
           try clear c2b0
           try clear c2b1
           try clear p2
           try clear c3
           try clear c3b0
           try clear c3b1
           try clear c4
           try clear c4b0
           try clear c4b1
           try clear c7
           try clear c7b0
           try clear c8
           try clear c8b0
           try clear c9
           try clear c9b0
           try clear c10
           try clear c10b0
           try clear c10b1
           try clear c10b2
           try clear p10
           try clear q10
           try clear hx10
           try clear qi10
           try clear c11
           try clear p11
           try clear q11
           try clear hx11
           try clear hx109_0
           try clear hx113_0
           try clear p1
           try clear p109
           try clear p113
           try clear p2
           try clear q1
           try clear q109
           try clear q113
           obtain ⟨x4_2, x27_2, rfl, HA, HK2, HO_4, HB⟩ := hrel
           have hl4_2 := (Kd.R_reads' HO_4.out).1
           rw [hl4_2] at HO_4
           (try simp only [hl4_2])
           cases gk with
           | zero => exact absurd HA.out (by simp [region_sum.l1])
           | succ k2 =>
            have H := HA.out
            clear HA
            simp only [region_sum.l1] at H
            by_cases c12 : x27_2 < ((rd_L1 l0 x16_1).length : Int)
            ·rw [if_pos c12] at H
             have c12b0 : decide (x27_2 < ((rd_L1 l0 x16_1).length : Int)) = true := decide_eq_true c12
             clear c12
             by_cases c13 : 0 ≤ x27_2
             ·rw [if_pos c13] at H
              have c13b0 : decide (0 ≤ x27_2) = true := decide_eq_true c13
              clear c13
              by_cases c14 : x27_2 < ((rd_L1 l0 x16_1).length : Int)
              ·rw [if_pos c14] at H
               have c14b0 : decide (x27_2 < ((rd_L1 l0 x16_1).length : Int)) = true := decide_eq_true c14
               clear c14
               by_cases c15 : x27_2 < (x4_2.length : Int)
               ·rw [if_pos c15] at H
                have c15b0 : decide (x27_2 < (x4_2.length : Int)) = true := decide_eq_true c15
                clear c15
                obtain ⟨y116, hy116⟩ : ∃ y_ : List Int, y_ = (x4_2.set (x27_2 : Int).toNat (Go.bits .xor .u8 (rd x4_2 x27_2) (rd (rd_L1 l0 x16_1) x27_2))) := ⟨_, rfl⟩
                replace H : (region_sum.l1 k2 y116 l0 (l0.length : Int) x16_1 (rd_L1 l0 x16_1) ((rd_L1 l0 x16_1).length : Int) (wrap64 (x27_2 + 1))) = some (r1, r2) := by first | (rw [hy116]; with_reducible exact H) | (have H2_ := (Option.bind_some _ _).symm.trans H; rw [hy116]; with_reducible exact H2_) | (have H2_ := (Option.bind_some _ _).symm.trans H; with_reducible exact H2_) | with_reducible exact H | (rw [hy116]; exact H) | exact H
                have Ny116 := Aside0.mk hy116
                clear hy116
                have H' := Aside0.mk H
                clear H
                have p114 : 0 ≤ (x27_2 : Int) := of_decide_eq_true as_
                have q114 : x27_2 < ((rd_L1 l0 x16_1).length : Int) := of_decide_eq_true as_
                obtain ⟨ad114, e114, hx114_0⟩ := Kd.at_int HR113_0.out x27_2 p114 q114
                cases e114
                replace hx114_0 := (HB.out.cell (World.block_lt_of_cell? w _ hx114_0)).trans hx114_0
                replace p114 := eq_true p114
                replace q114 := eq_true q114
                have p115 : 0 ≤ (x27_2 : Int) := of_decide_eq_true as_
                have q115 : x27_2 < (x4_2.length : Int) := of_decide_eq_true as_
                obtain ⟨ad115, e115, hx115_0⟩ := Kd.at_int (Kd.R_reads' HO_4.out).2.2 x27_2 p115 q115
                cases e115
                replace p115 := eq_true p115
                replace q115 := eq_true q115
                have p16 : 0 ≤ (x27_2 : Int) := of_decide_eq_true as_
                have q16 : (x27_2 : Int) < ((x4_2.length : Int) : Int) := of_decide_eq_true as_
                obtain ⟨go16, co16, eo16, gb16, gl16, cl16, HG16⟩ := Kd.R_form HO_4.out (by omega)
                (first | cases eo16 | (injection eo16 with ea_ en_ ec_; (first | subst ea_ | (injection ea_ with ea_; subst ea_)); subst ec_; clear en_))
                have GB16 := Aside0.mk gb16
                have GG16 := Aside0.mk HG16
                clear gb16 gl16 HG16
                (first | simp only [add_plain] at hx115_0 | skip)
                obtain ⟨hx16_0, hf16_0⟩ := Kd.R_celln 0 HO_4.out (x27_2 : Int) p16 q16
                replace p16 := eq_true p16
                replace q16 := eq_true q16
                have HP17 := Kd.R_putg HO_4.out (x27_2 : Int) (Go.bits .xor .u8 (rd x4_2 x27_2) (rd (rd_L1 l0 x16_1) x27_2))
                go_wp2_with (first | ((with_reducible refine gate_store (t := 5) (p := 38) rfl ?_); refine store_event (t := 5) (p := 38) (v := ?vo_w18) (w1 := (wr.setCell ⟨go16, (x27_2 : Int).toNat, none⟩ (.int .u8 (Go.bits .xor .u8 (rd x4_2 x27_2) (rd (rd_L1 l0 x16_1) x27_2))))) ?hg ?ho ?hn ?hr ?_; (case ho => rfl); (case hg => rfl); (case hn => rfl); (case hr => first | (go_simp; done) | (go_simp; rfl)); intro w18 hw; have hg : wr.grownBy w18 (some go16) := (by rw [hw]; exact HP17.2); have hp_ : Kd.R (Kd.int .u8) 5 w18 w.heap.size (fun _ => True) (.slice (some ⟨go16, 0, none⟩) x4_2.length co11) y116 := (by rw [hw, Ny116.out]; exact HP17.1); clear HP17; have n0_ := Aside0.mk (hp_); have n1_ := Aside0.mk ((by rw [hw]; exact below_set (HB.out) GB16.out : Below w.heap.size w w18)); clear HO_4; clear HB; have HO_4 := n0_; have HB := n1_; clear n0_ n1_; clear hg hw hp_))
                (try simp only [← hl4_2])
                go_roundg k2
                case measure => have := HK1.out; have := HK2.out; omega
                case rel => exact ⟨(y116), (wrap64 (x27_2 + 1)), sd_, H', ⟨by have := HK1.out; have := HK2.out; omega⟩, ⟨by (try simp only [hl4_2]); (with_reducible repeat (first | apply Kd.R_alloc | apply Kd.R_drewN | apply Kd.R_drew)); exact HO_4.out⟩, ⟨bl_⟩⟩
               ·rw [if_neg c15] at H
                exact absurd H (by simp)
              ·rw [if_neg c14] at H
               exact absurd H (by simp)
             ·rw [if_neg c13] at H
              exact absurd H (by simp)
            ·rw [if_neg c12] at H
             have c12b0 : decide (x27_2 < ((rd_L1 l0 x16_1).length : Int)) = false := decide_eq_false c12
             clear c12
             have H' := Aside0.mk H
             clear H
             go_wp2
             (try simp only [← hl4_2])
             go_roundg k2
             case measure => have := HK1.out; have := HK2.out; omega
             case rel => exact ⟨(x4_2), (wrap64 (x16_1 + 1)), sd_, H', ⟨by have := HK1.out; have := HK2.out; omega⟩, ⟨by (try simp only [hl4_2]); (with_reducible repeat (first | apply Kd.R_alloc | apply Kd.R_drewN | apply Kd.R_drew)); exact HO_4.out⟩, ⟨bl_⟩⟩
         ·rw [if_neg c10] at H
          have c10b0 : (((rd_L1 l0 x16_1).length : Int) == (x4_1.length : Int)) = false := beq_eq_false_iff_ne.mpr c10
          have c10b1 : (((rd_L1 l0 x16_1).length : Int) != (x4_1.length : Int)) = true := bne_iff_ne.mpr c10
          have c10b2 : ((rd_L1 l0 x16_1).length == x4_1.length) = false := by first | simpa using c10 | (simp at c10 ⊢; omega)
          simp only [Option.some.injEq, Prod.mk.injEq] at H
          obtain ⟨rfl, rfl⟩ := H
          have p113 : 0 ≤ (x16_1 : Int) := of_decide_eq_true as_
          have q113 : x16_1 < (l0.length : Int) := of_decide_eq_true as_
          obtain ⟨ad113, A113_0, c113_0, e113, hx113_0, hl113_0, hi113_0⟩ := at_L1 HR0.out x16_1 p113 q113
          obtain rfl : ad109 = ad113 := (by injection e113)
          replace hx113_0 := (HB.out.cell (World.block_lt_of_cell? w _ hx113_0)).trans hx113_0
          have HR113_0 := Aside0.mk hi113_0
          have HC113_0 := Aside0.mk hl113_0
          clear hi113_0 hl113_0
          replace p113 := eq_true p113
          replace q113 := eq_true q113
          obtain ⟨Ao19, co19, eo19⟩ := Kd.R_slice HO_4.out
          subst eo19
          go_wp2
          go_ret2
          exact ⟨_, er_, by first | exact Kd.R_nil _ _ _ _ _ | exact Kd.N_nil _ _ _ _ _ | exact Kd.V_nil _ _ _ _ _ | exact Kd.Q_nil _ _ _ _ _ | exact Kd.S_nil _ _ _ _ _, bl_⟩
        ·rw [if_neg c9] at H
         exact absurd H (by simp)
       ·rw [if_neg c8] at H
        exact absurd H (by simp)
      ·rw [if_neg c7] at H
       have c7b0 : decide (x16_1 < (l0.length : Int)) = false := decide_eq_false c7
       clear c7
       simp only [Option.some.injEq, Prod.mk.injEq] at H
       obtain ⟨rfl, rfl⟩ := H
       go_wp2
       go_ret2
       exact ⟨_, er_, by (with_reducible repeat (first | apply Kd.R_alloc | apply Kd.R_drewN | apply Kd.R_drew)); exact HO_4.out, bl_⟩
   ·rw [if_neg c4] at H
    exact absurd H (by simp)
  ·rw [if_neg c3] at H
   exact absurd H (by simp)
 ·rw [if_neg c2] at H
  exact absurd H (by simp)
def bits_Len64.f (a0 : Int) : Option (Int) := if 0 ≤ a0 then (if a0 ≤ 18446744073709551615 then (some (Lib.bitLen a0.toNat : Int)) else (none)) else (none)
theorem bits_Len64.calls (a0 : Int) (r : Int) (w : World) (h : bits_Len64.f a0 = some r) :
  Calls Tryz.prog 152 #[.int .u64 a0] w fun e w' => e = .returned (.int .i64 r) ∧ Drawn0 w w' := by
 unfold bits_Len64.f at h
 by_cases h0 : 0 ≤ a0
 case neg => rw [if_neg h0] at h; cases h
 rw [if_pos h0] at h
 by_cases h1 : a0 ≤ 18446744073709551615
 case neg => rw [if_neg h1] at h; cases h
 rw [if_pos h1] at h
 cases h
 refine (bits_Len64_told a0 w h0 h1).mono ?_
 rintro e w' ⟨rfl, rfl⟩
 exact ⟨rfl, Drawn0.refl _⟩
def poly_Deg.f (a0 : Int) : Option (Int) := (bits_Len64.f a0).bind fun t708 => (some (wrap64 (t708 - 1)))
set_option maxHeartbeats 8000000 in
set_option maxRecDepth 100000 in
theorem poly_Deg.calls (a0 : Int) (r : Int) (w : World) (h : poly_Deg.f a0 = some r) :
  Calls Tryz.prog 115 #[.int .u64 a0] w fun e w' => e = .returned (.int .i64 r) ∧ Drawn0 w w' := by
 have H : ((bits_Len64.f a0).bind fun t708 => (some (wrap64 (t708 - 1)))) = some r := h
 clear h
 replace H := Option.bind_eq_some_iff.mp H
 obtain ⟨t708, A20, H⟩ := H
 replace H : (some (wrap64 (t708 - 1))) = some r := H
 have A2 := Aside0.mk A20
 clear A20
 obtain rfl := Option.some.inj H
 go_enter Tryz.func115, Tryz.ntmps115
 go_wp2_with (first | ((with_reducible refine gate_callee (f := 152) rfl ?_); refine goesL_ (some 4) rfl rfl Tryz.func152 kr_ rfl #[.int .u64 a0] rfl ar_ ?_; (with_reducible refine (bits_Len64.calls a0 t708 _ A2.out).mono ?_); rintro e w' ⟨rfl, ⟨nd, rfl⟩⟩; refine ⟨_, rfl, ?_⟩))
 go_ret
 exact ⟨sd_, dn_⟩
def poly_Mod.l0 : Nat → Int → Int → Int → Int → Option (Int)
 | 0, _, _, _, _ => none
 | k + 1, x0, x1, x5, x6 => if x6 ≥ x5 then (if 0 ≤ x6 then (if (Go.bits .and .u64 (shr .u64 x0 x6) 1) = 1 then (if 0 ≤ (wrap64 (x6 - x5)) then (poly_Mod.l0 k (Go.bits .xor .u64 x0 (shl .u64 (IntKind.u64.wrap (x1)) (wrap64 (x6 - x5)))) x1 x5 (wrap64 (x6 - 1))) else (none)) else (poly_Mod.l0 k x0 x1 x5 (wrap64 (x6 - 1)))) else (none)) else (some ((x0) % 4294967296))
def poly_Mod.f (k : Nat) (a0 : Int) (a1 : Int) : Option (Int) := if a1 = 0 then (some 0) else ((poly_Deg.f (IntKind.u64.wrap (a1))).bind fun t709 => ((poly_Deg.f a0).bind fun t710 => (poly_Mod.l0 k a0 a1 t709 t710)))
set_option maxHeartbeats 8000000 in
set_option maxRecDepth 100000 in
theorem poly_Mod.calls (k : Nat) (a0 : Int) (a1 : Int) (r : Int) (w : World) (h : poly_Mod.f k a0 a1 = some r) :
  Calls Tryz.prog 154 #[.int .u64 a0, .int .u32 a1] w fun e w' => e = .returned (.int .u32 r) ∧ Drawn0 w w' := by
 have H : (if a1 = 0 then (some 0) else ((poly_Deg.f (IntKind.u64.wrap (a1))).bind fun t709 => ((poly_Deg.f a0).bind fun t710 => (poly_Mod.l0 k a0 a1 t709 t710)))) = some r := h
 clear h
 by_cases c3 : a1 = 0
 ·rw [if_pos c3] at H
  have c3b0 : (a1 == 0) = true := beq_iff_eq.mpr c3
  have c3b1 : (a1 != 0) = false := bne_eq_false_iff_eq.mpr c3
  clear c3
  obtain rfl := Option.some.inj H
  go_enter Tryz.func154, Tryz.ntmps154
  go_wp2
  go_ret
  exact ⟨sd_, dn_⟩
 ·rw [if_neg c3] at H
  have c3b0 : (a1 == 0) = false := beq_eq_false_iff_ne.mpr c3
  have c3b1 : (a1 != 0) = true := bne_iff_ne.mpr c3
  replace H := Option.bind_eq_some_iff.mp H
  obtain ⟨t709, A40, H⟩ := H
  replace H : ((poly_Deg.f a0).bind fun t710 => (poly_Mod.l0 k a0 a1 t709 t710)) = some r := H
  have A4 := Aside0.mk A40
  clear A40
  replace H := Option.bind_eq_some_iff.mp H
  obtain ⟨t710, A50, H⟩ := H
  replace H : (poly_Mod.l0 k a0 a1 t709 t710) = some r := H
  have A5 := Aside0.mk A50
  clear A50
  have H' := Aside0.mk H
  clear H
  go_enter Tryz.func154, Tryz.ntmps154
  go_wp2_with (first | ((with_reducible refine gate_callee (f := 115) rfl ?_); refine goesL_ (some 11) rfl rfl Tryz.func115 kr_ rfl #[.int .u64 (IntKind.u64.wrap (a1))] rfl ar_ ?_; (with_reducible refine (poly_Deg.calls (IntKind.u64.wrap (a1)) t709 _ A4.out).mono ?_); rintro e w' ⟨rfl, ⟨nd, rfl⟩⟩; refine ⟨_, rfl, ?_⟩) | ((with_reducible refine gate_callee (f := 115) rfl ?_); refine goesL_ (some 13) rfl rfl Tryz.func115 kr_ rfl #[.int .u64 a0] rfl ar_ ?_; (with_reducible refine (poly_Deg.calls a0 t710 _ A5.out).mono ?_); rintro e w' ⟨rfl, ⟨nd, rfl⟩⟩; refine ⟨_, rfl, ?_⟩))
  go_loopg [0, 6] k (fun kq v0 v6 w' => ∃ (x0_1 : Int) (x6_1 : Int), v0 = .int .u64 x0_1 ∧ v6 = .int .i64 x6_1 ∧ Aside0 (poly_Mod.l0 kq x0_1 a1 t709 x6_1 = some r) ∧ Aside0 (kq ≤ k) ∧ Drawn0 w w')
  case atStart => exact ⟨(a0), (t710), sd_, sd_, H', ⟨Nat.le_refl _⟩, dn_⟩
  case round =>
   clear H'
   try clear c1
   try clear p2
   try clear c3
   try clear c3b0
   try clear c3b1
   obtain ⟨x0_1, x6_1, rfl, rfl, HA, HK1, ⟨m1, rfl⟩⟩ := hrel
   cases gk with
   | zero => exact absurd HA.out (by simp [poly_Mod.l0])
   | succ k1 =>
    have H := HA.out
    clear HA
    simp only [poly_Mod.l0] at H
    by_cases c6 : x6_1 ≥ t709
    ·rw [if_pos c6] at H
     have c6b0 : decide (t709 ≤ x6_1) = true := decide_eq_true c6
     clear c6
     by_cases c7 : 0 ≤ x6_1
     ·rw [if_pos c7] at H
      have c7b0 := eq_true c7
      have c7b1 : decide (0 ≤ x6_1) = true := decide_eq_true c7
      clear c7
      obtain ⟨ji8, hji8⟩ : ∃ j_ : Int, (shr .u64 x0_1 x6_1) = j_ := ⟨_, rfl⟩
      replace H : (if (Go.bits .and .u64 (ji8) 1) = 1 then (if 0 ≤ (wrap64 (x6_1 - t709)) then (poly_Mod.l0 k1 (Go.bits .xor .u64 x0_1 (shl .u64 (IntKind.u64.wrap (a1)) (wrap64 (x6_1 - t709)))) a1 t709 (wrap64 (x6_1 - 1))) else (none)) else (poly_Mod.l0 k1 x0_1 a1 t709 (wrap64 (x6_1 - 1)))) = some r := by first | (rw [hji8] at H; exact H) | (simp only [hji8] at H ⊢; exact H)
      have hji8_ : (x0_1 / 2 ^ min x6_1.toNat 64) = ji8 := hji8
      have hji8z : x6_1 ≤ 64 → (x0_1 / 2 ^ x6_1.toNat) = ji8 := shr_small hji8
      by_cases c9 : (Go.bits .and .u64 (ji8) 1) = 1
      ·rw [if_pos c9] at H
       have c9b0 : ((Go.bits .and .u64 (ji8) 1) == 1) = true := beq_iff_eq.mpr c9
       have c9b1 : ((Go.bits .and .u64 (ji8) 1) != 1) = false := bne_eq_false_iff_eq.mpr c9
       clear c9
       obtain ⟨ji10, hji10⟩ : ∃ j_ : Int, (wrap64 (x6_1 - t709)) = j_ := ⟨_, rfl⟩
       replace H : (if 0 ≤ (ji10) then (poly_Mod.l0 k1 (Go.bits .xor .u64 x0_1 (shl .u64 (IntKind.u64.wrap (a1)) (ji10))) a1 t709 (wrap64 (x6_1 - 1))) else (none)) = some r := by first | (rw [hji10] at H; exact H) | (simp only [hji10] at H ⊢; exact H)
       have hji10w : (IntKind.i64.wrap (x6_1 - t709)) = ji10 := (i64_w _).trans hji10
       by_cases c11 : 0 ≤ (ji10)
       ·rw [if_pos c11] at H
        have c11b0 := eq_true c11
        have c11b1 : decide (0 ≤ (ji10)) = true := decide_eq_true c11
        clear c11
        obtain ⟨ji12, hji12⟩ : ∃ j_ : Int, (shl .u64 (IntKind.u64.wrap (a1)) (ji10)) = j_ := ⟨_, rfl⟩
        replace H : (poly_Mod.l0 k1 (Go.bits .xor .u64 x0_1 (ji12)) a1 t709 (wrap64 (x6_1 - 1))) = some r := by first | (rw [hji12] at H; exact H) | (simp only [hji12] at H ⊢; exact H)
        have hji12_ : (IntKind.u64.wrap ((IntKind.u64.wrap (a1)) * 2 ^ min (ji10).toNat 64)) = ji12 := hji12
        have hji12z : (ji10) ≤ 64 → (IntKind.u64.wrap ((IntKind.u64.wrap (a1)) * 2 ^ (ji10).toNat)) = ji12 := shl_small hji12
        have H' := Aside0.mk H
        clear H
        go_wp2
        (first | go_roundg k1 | (subst hji12; go_roundg k1))
        case measure => have := HK1.out; omega
        case rel => exact ⟨(Go.bits .xor .u64 x0_1 (ji12)), (wrap64 (x6_1 - 1)), (by first | rfl | (simp; done) | (simp only [← hji12] <;> (first | rfl | simp)) | (simp [*]; done)), sd_, H', ⟨by have := HK1.out; omega⟩, dn_⟩
       ·rw [if_neg c11] at H
        exact absurd H (by simp)
      ·rw [if_neg c9] at H
       have c9b0 : ((Go.bits .and .u64 (ji8) 1) == 1) = false := beq_eq_false_iff_ne.mpr c9
       have c9b1 : ((Go.bits .and .u64 (ji8) 1) != 1) = true := bne_iff_ne.mpr c9
       have H' := Aside0.mk H
       clear H
       go_wp2
       (first | go_roundg k1 | (subst hji12; go_roundg k1))
       case measure => have := HK1.out; omega
       case rel => exact ⟨(x0_1), (wrap64 (x6_1 - 1)), sd_, sd_, H', ⟨by have := HK1.out; omega⟩, dn_⟩
     ·rw [if_neg c7] at H
      exact absurd H (by simp)
    ·rw [if_neg c6] at H
     have c6b0 : decide (t709 ≤ x6_1) = false := decide_eq_false c6
     clear c6
     obtain rfl := Option.some.inj H
     go_wp2
     go_ret
     exact ⟨sd_, dn_⟩
def bits_Len32.f (a0 : Int) : Option (Int) := if 0 ≤ a0 then (if a0 ≤ 4294967295 then (some (Lib.bitLen a0.toNat : Int)) else (none)) else (none)
theorem bits_Len32.calls (a0 : Int) (r : Int) (w : World) (h : bits_Len32.f a0 = some r) :
  Calls Tryz.prog 180 #[.int .u32 a0] w fun e w' => e = .returned (.int .i64 r) ∧ Drawn0 w w' := by
 unfold bits_Len32.f at h
 by_cases h0 : 0 ≤ a0
 case neg => rw [if_neg h0] at h; cases h
 rw [if_pos h0] at h
 by_cases h1 : a0 ≤ 4294967295
 case neg => rw [if_neg h1] at h; cases h
 rw [if_pos h1] at h
 cases h
 refine (bits_Len32_told a0 w h0 h1).mono ?_
 rintro e w' ⟨rfl, rfl⟩
 exact ⟨rfl, Drawn0.refl _⟩
def poly_Mul.at_ (a b : Int) : Nat → Int
 | 0 => 0
 | i + 1 => if Go.bits .and .u32 (shr .u32 b (i : Int)) 1 = 1 then Go.bits .xor .u64 (poly_Mul.at_ a b i) (shl .u64 (IntKind.u64.wrap a) (i : Int)) else poly_Mul.at_ a b i
def poly_Mul.f (a0 : Int) (a1 : Int) : Option (Int) := (bits_Len32.f a1).bind fun n => if 0 ≤ n then (if n ≤ 32 then (some (poly_Mul.at_ a0 a1 n.toNat)) else (none)) else (none)
set_option maxRecDepth 100000 in
set_option maxHeartbeats 1000000 in
theorem poly_Mul1.calls (b i : Int) (g : Nat) (W : World) (h1 : W.heap[g]? = some (.cells #[.int .u32 b] 70 (0, 0))) (hi : 0 ≤ i) :
  Calls Tryz.prog 179 #[.int .i64 i, .pointer (some ⟨g, 0, none⟩)] W fun e w' => e = .returned (.bool (Go.bits .and .u32 (shr .u32 b i) 1 == 1)) ∧ Drawn0 W w' := by
 have hc1 := (blk_cell h1 0).trans rfl
 obtain ⟨z, hz⟩ : ∃ z : Int, shr .u32 b i = z := ⟨_, rfl⟩
 have hz_ : (b / 2 ^ min i.toNat 32) = z := hz
 have hzz : i ≤ 32 → (b / 2 ^ i.toNat) = z := shr_small hz
 have hi1 := eq_true hi
 have hi2 : decide (0 ≤ i) = true := decide_eq_true hi
 rw [hz]
 go_enter Tryz.func179, Tryz.ntmps179
 go_wp2
 go_ret
 exact ⟨rfl, Drawn0.refl _⟩
set_option maxRecDepth 100000 in
set_option maxHeartbeats 1000000 in
theorem poly_Mul.calls (a0 : Int) (a1 : Int) (r : Int) (w : World) (h : poly_Mul.f a0 a1 = some r) :
  Calls Tryz.prog 166 #[.int .u32 a0, .int .u32 a1] w fun e w' => e = .returned (.int .u64 r) ∧ Below w.heap.size w w' := by
 unfold poly_Mul.f at h
 cases hn : bits_Len32.f a1 with
 | none => rw [hn] at h; cases h
 | some n =>
  rw [hn] at h
  simp only [Option.bind_some] at h
  by_cases h0 : 0 ≤ n
  case neg => rw [if_neg h0] at h; cases h
  rw [if_pos h0] at h
  by_cases h32 : n ≤ 32
  case neg => rw [if_neg h32] at h; cases h
  rw [if_pos h32] at h
  cases h
  have HN := Aside0.mk hn
  clear hn
  go_enter Tryz.func166, Tryz.ntmps166
  go_wp2_with (first | (go_at_call 180; refine (bits_Len32.calls a1 n _ HN.out).mono ?_; rintro e w9 ⟨rfl, m9, rfl⟩))
  go_loopw [5, 11] (fun p i wr => ∃ k : Nat, (k : Int) ≤ n ∧ p = .int .u64 (poly_Mul.at_ a0 a1 k) ∧ i = .int .i64 k ∧ Aside0 (Below w.heap.size w wr) ∧ Aside0 (wr.heap[w.heap.size]? = some (.cells #[.int .u32 a1] 70 (0, 0))))
   (fun _ i _ => 40 - (intOf i).toNat)
  case atStart => exact ⟨0, h0, rfl, rfl, ⟨by repeat (first | exact Below.refl _ _ | apply pw_below_drewN | apply below_alloc)⟩, ⟨by simpa using heap_alloc_new w _⟩⟩
  case round =>
   obtain ⟨k, hk, rfl, rfl, HB, BK⟩ := hrel
   by_cases hlt : (k : Int) < n
   ·obtain ⟨z, hz⟩ : ∃ z : Int, shl .u64 (IntKind.u64.wrap a0) (k : Int) = z := ⟨_, rfl⟩
    have hz_ : (IntKind.u64.wrap (IntKind.u64.wrap a0 * 2 ^ min (k : Int).toNat 64)) = z := hz
    have hzz : (k : Int) ≤ 64 → (IntKind.u64.wrap (IntKind.u64.wrap a0 * 2 ^ (k : Int).toNat)) = z := shl_small hz
    have hs : poly_Mul.at_ a0 a1 (k + 1) = if (Go.bits .and .u32 (shr .u32 a1 (k : Int)) 1 == 1) = true then Go.bits .xor .u64 (poly_Mul.at_ a0 a1 k) z else poly_Mul.at_ a0 a1 k := by
     simp only [poly_Mul.at_, beq_iff_eq, hz]
    generalize hq : (Go.bits .and .u32 (shr .u32 a1 (k : Int)) 1 == 1) = q at hs
    have HQ := Aside0.mk hq
    have HS := Aside0.mk hs
    clear hq hs
    cases q with
    | true =>
     go_wp2_with (first | (go_at_call 179; refine (poly_Mul1.calls a1 (k : Int) w.heap.size _ BK.out (by omega)).mono ?_; rintro e w9 ⟨rfl, m9, rfl⟩; rw [HQ.out]))
     go_roundw
     case rel => exact ⟨k + 1, by omega, by rw [HS.out, if_pos (by trivial), ← hzz (by omega)]; simp, by go_num, ⟨by repeat (first | exact HB.out | apply pw_below_drewN)⟩, ⟨BK.out⟩⟩
     case measure => simp [intOf]; omega
    | false =>
     go_wp2_with (first | (go_at_call 179; refine (poly_Mul1.calls a1 (k : Int) w.heap.size _ BK.out (by omega)).mono ?_; rintro e w9 ⟨rfl, m9, rfl⟩; rw [HQ.out]))
     go_roundw
     case rel => exact ⟨k + 1, by omega, by rw [HS.out]; rfl, by go_num, ⟨by repeat (first | exact HB.out | apply pw_below_drewN)⟩, ⟨BK.out⟩⟩
     case measure => simp [intOf]; omega
   ·have : n = (k : Int) := by omega
    subst this
    go_wp2
    go_ret
    exact ⟨by simp, HB.out⟩
def poly_MulMod.f (k : Nat) (a0 : Int) (a1 : Int) (a2 : Int) : Option (Int) := (poly_Mul.f a0 a1).bind fun t711 => ((poly_Mod.f k t711 a2).bind fun t712 => (some t712))
set_option maxHeartbeats 8000000 in
set_option maxRecDepth 100000 in
theorem poly_MulMod.calls (k : Nat) (a0 : Int) (a1 : Int) (a2 : Int) (r : Int) (w : World) (h : poly_MulMod.f k a0 a1 a2 = some r) :
  Calls Tryz.prog 142 #[.int .u32 a0, .int .u32 a1, .int .u32 a2] w fun e w' => e = .returned (.int .u32 r) ∧ Below w.heap.size w w' := by
 have HB := Aside0.mk (Below.refl w.heap.size w)
 have H : ((poly_Mul.f a0 a1).bind fun t711 => ((poly_Mod.f k t711 a2).bind fun t712 => (some t712))) = some r := h
 clear h
 replace H := Option.bind_eq_some_iff.mp H
 obtain ⟨t711, A40, H⟩ := H
 replace H : ((poly_Mod.f k t711 a2).bind fun t712 => (some t712)) = some r := H
 have A4 := Aside0.mk A40
 clear A40
 replace H := Option.bind_eq_some_iff.mp H
 obtain ⟨t712, A50, H⟩ := H
 replace H : (some t712) = some r := H
 have A5 := Aside0.mk A50
 clear A50
 obtain rfl := Option.some.inj H
 go_enter Tryz.func142, Tryz.ntmps142
 go_wp2_with (first | ((with_reducible refine gate_callee (f := 166) rfl ?_); refine goesL_ (some 9) rfl rfl Tryz.func166 kr_ rfl #[.int .u32 a0, .int .u32 a1] rfl ar_ ?_; (with_reducible refine (poly_Mul.calls a0 a1 t711 _ A4.out).mono ?_); rintro e w6 ⟨rfl, hb⟩; refine ⟨_, rfl, ?_⟩; have n0_ := Aside0.mk (below_step bl_ hb); clear HB; have HB := n0_; clear n0_; (try clear hb); (try clear hb2); (try clear hk); (try clear hi)) | ((with_reducible refine gate_callee (f := 154) rfl ?_); refine goesL_ (some 11) rfl rfl Tryz.func154 kr_ rfl #[.int .u64 t711, .int .u32 a2] rfl ar_ ?_; (with_reducible refine (poly_Mod.calls k t711 a2 t712 _ A5.out).mono ?_); rintro e w' ⟨rfl, ⟨nd, rfl⟩⟩; refine ⟨_, rfl, ?_⟩))
 go_ret
 exact ⟨er_, bl_⟩
def poly_frobenius.l0 : Nat → Int → Int → Int → Int → Option (Int)
 | 0, _, _, _, _ => none
 | k + 1, x1, x5, x8, x9 => if x9 < x8 then ((poly_MulMod.f k x5 x5 x1).bind fun t714 => (poly_frobenius.l0 k x1 t714 x8 (wrap64 (x9 + 1)))) else (some x5)
def poly_frobenius.f (k : Nat) (a0 : Int) (a1 : Int) : Option (Int) := (poly_Mod.f k 2 a1).bind fun t713 => (poly_frobenius.l0 k a1 t713 a0 0)
set_option maxHeartbeats 8000000 in
set_option maxRecDepth 100000 in
theorem poly_frobenius.calls (k : Nat) (a0 : Int) (a1 : Int) (r : Int) (w : World) (h : poly_frobenius.f k a0 a1 = some r) :
  Calls Tryz.prog 175 #[.int .i64 a0, .int .u32 a1] w fun e w' => e = .returned (.int .u32 r) ∧ Below w.heap.size w w' := by
 have HB := Aside0.mk (Below.refl w.heap.size w)
 have H : ((poly_Mod.f k 2 a1).bind fun t713 => (poly_frobenius.l0 k a1 t713 a0 0)) = some r := h
 clear h
 replace H := Option.bind_eq_some_iff.mp H
 obtain ⟨t713, A30, H⟩ := H
 replace H : (poly_frobenius.l0 k a1 t713 a0 0) = some r := H
 have A3 := Aside0.mk A30
 clear A30
 have H' := Aside0.mk H
 clear H
 go_enter Tryz.func175, Tryz.ntmps175
 go_wp2_with (first | ((with_reducible refine gate_callee (f := 154) rfl ?_); refine goesL_ (some 7) rfl rfl Tryz.func154 kr_ rfl #[.int .u64 2, .int .u32 a1] rfl ar_ ?_; (with_reducible refine (poly_Mod.calls k 2 a1 t713 _ A3.out).mono ?_); rintro e w' ⟨rfl, ⟨nd, rfl⟩⟩; refine ⟨_, rfl, ?_⟩))
 go_loopg [5, 9] k (fun kq v5 v9 w' => ∃ (x5_1 : Int) (x9_1 : Int), v5 = .int .u32 x5_1 ∧ v9 = .int .i64 x9_1 ∧ Aside0 (poly_frobenius.l0 kq a1 x5_1 a0 x9_1 = some r) ∧ Aside0 (kq ≤ k) ∧ Aside0 (Below w.heap.size w w'))
 case atStart => exact ⟨(t713), (0), sd_, sd_, H', ⟨Nat.le_refl _⟩, ⟨bl_⟩⟩
 case round =>
  clear H'
  try clear c1
  try clear p2
  obtain ⟨x5_1, x9_1, rfl, rfl, HA, HK1, HB⟩ := hrel
  cases gk with
  | zero => exact absurd HA.out (by simp [poly_frobenius.l0])
  | succ k1 =>
   have H := HA.out
   clear HA
   simp only [poly_frobenius.l0] at H
   by_cases c4 : x9_1 < a0
   ·rw [if_pos c4] at H
    have c4b0 : decide (x9_1 < a0) = true := decide_eq_true c4
    clear c4
    replace H := Option.bind_eq_some_iff.mp H
    obtain ⟨t714, A50, H⟩ := H
    replace H : (poly_frobenius.l0 k1 a1 t714 a0 (wrap64 (x9_1 + 1))) = some r := H
    have A5 := Aside0.mk A50
    clear A50
    have H' := Aside0.mk H
    clear H
    go_wp2_with (first | ((with_reducible refine gate_callee (f := 142) rfl ?_); refine goesL_ (some 14) rfl rfl Tryz.func142 kr_ rfl #[.int .u32 x5_1, .int .u32 x5_1, .int .u32 a1] rfl ar_ ?_; (with_reducible refine (poly_MulMod.calls k1 x5_1 x5_1 a1 t714 _ A5.out).mono ?_); rintro e w6 ⟨rfl, hb⟩; refine ⟨_, rfl, ?_⟩; have n0_ := Aside0.mk (below_step bl_ hb); clear HB; have HB := n0_; clear n0_; (try clear hb); (try clear hb2); (try clear hk); (try clear hi)))
    go_roundg k1
    case measure => have := HK1.out; omega
    case rel => exact ⟨(t714), (wrap64 (x9_1 + 1)), sd_, sd_, H', ⟨by have := HK1.out; omega⟩, ⟨bl_⟩⟩
   ·rw [if_neg c4] at H
    have c4b0 : decide (x9_1 < a0) = false := decide_eq_false c4
    clear c4
    obtain rfl := Option.some.inj H
    go_wp2
    go_ret
    exact ⟨er_, bl_⟩
def poly_gcd.l0 : Nat → Int → Int → Option (Int)
 | 0, _, _ => none
 | k + 1, x0, x1 => if x1 = 0 then (some x0) else ((poly_Mod.f k (IntKind.u64.wrap (x0)) x1).bind fun t715 => (poly_gcd.l0 k x1 t715))
def poly_gcd.f (k : Nat) (a0 : Int) (a1 : Int) : Option (Int) := poly_gcd.l0 k a0 a1
set_option maxHeartbeats 8000000 in
set_option maxRecDepth 100000 in
theorem poly_gcd.calls (k : Nat) (a0 : Int) (a1 : Int) (r : Int) (w : World) (h : poly_gcd.f k a0 a1 = some r) :
  Calls Tryz.prog 176 #[.int .u32 a0, .int .u32 a1] w fun e w' => e = .returned (.int .u32 r) ∧ Drawn0 w w' := by
 have H : (poly_gcd.l0 k a0 a1) = some r := h
 clear h
 have H' := Aside0.mk H
 clear H
 go_enter Tryz.func176, Tryz.ntmps176
 go_wp2
 go_loopg [0, 1] k (fun kq v0 v1 w' => ∃ (x0_1 : Int) (x1_1 : Int), v0 = .int .u32 x0_1 ∧ v1 = .int .u32 x1_1 ∧ Aside0 (poly_gcd.l0 kq x0_1 x1_1 = some r) ∧ Aside0 (kq ≤ k) ∧ Drawn0 w w')
 case atStart => exact ⟨(a0), (a1), sd_, sd_, H', ⟨Nat.le_refl _⟩, dn_⟩
 case round =>
  clear H'
  try clear c1
  try clear p2
  obtain ⟨x0_1, x1_1, rfl, rfl, HA, HK1, ⟨m1, rfl⟩⟩ := hrel
  cases gk with
  | zero => exact absurd HA.out (by simp [poly_gcd.l0])
  | succ k1 =>
   have H := HA.out
   clear HA
   simp only [poly_gcd.l0] at H
   by_cases c3 : x1_1 = 0
   ·rw [if_pos c3] at H
    have c3b0 : (x1_1 == 0) = true := beq_iff_eq.mpr c3
    have c3b1 : (x1_1 != 0) = false := bne_eq_false_iff_eq.mpr c3
    clear c3
    obtain rfl := Option.some.inj H
    go_wp2
    go_ret
    exact ⟨sd_, dn_⟩
   ·rw [if_neg c3] at H
    have c3b0 : (x1_1 == 0) = false := beq_eq_false_iff_ne.mpr c3
    have c3b1 : (x1_1 != 0) = true := bne_iff_ne.mpr c3
    replace H := Option.bind_eq_some_iff.mp H
    obtain ⟨t715, A40, H⟩ := H
    replace H : (poly_gcd.l0 k1 x1_1 t715) = some r := H
    have A4 := Aside0.mk A40
    clear A40
    have H' := Aside0.mk H
    clear H
    go_wp2_with (first | ((with_reducible refine gate_callee (f := 154) rfl ?_); refine goesL_ (some 11) rfl rfl Tryz.func154 kr_ rfl #[.int .u64 (IntKind.u64.wrap (x0_1)), .int .u32 x1_1] rfl ar_ ?_; (with_reducible refine (poly_Mod.calls k1 (IntKind.u64.wrap (x0_1)) x1_1 t715 _ A4.out).mono ?_); rintro e w' ⟨rfl, ⟨nd, rfl⟩⟩; refine ⟨_, rfl, ?_⟩))
    go_roundg k1
    case measure => have := HK1.out; omega
    case rel => exact ⟨(x1_1), (t715), sd_, sd_, H', ⟨by have := HK1.out; omega⟩, dn_⟩
mutual
def poly_Irreducible.j0 : Nat → Int → Int → Bool → Option (Bool)
 | 0, _, _, _ => none
 | k + 1, x0, x3, x21 => if x21 = true then (some false) else (poly_Irreducible.l0 k x0 x3 1)
def poly_Irreducible.l0 : Nat → Int → Int → Int → Option (Bool)
 | 0, _, _, _ => none
 | k + 1, x0, x3, x4 => if x4 ≤ (wrap64 (Int.tdiv x3 2)) then ((poly_frobenius.f k x4 x0).bind fun t719 => ((poly_gcd.f k x0 (Go.bits .xor .u32 t719 2)).bind fun t720 => (if t720 = 1 then (poly_Irreducible.l0 k x0 x3 (wrap64 (x4 + 1))) else (some false)))) else (some true)
end
def poly_Irreducible.f (k : Nat) (a0 : Int) : Option (Bool) := (poly_Deg.f (IntKind.u64.wrap (a0))).bind fun t716 => (if t716 < 1 then (poly_Irreducible.j0 k a0 t716 true) else (if t716 > 16 then (poly_Irreducible.j0 k a0 t716 true) else ((poly_frobenius.f k t716 a0).bind fun t717 => ((poly_Mod.f k 2 a0).bind fun t718 => (poly_Irreducible.j0 k a0 t716 (t717 != t718))))))
set_option maxHeartbeats 8000000 in
set_option maxRecDepth 100000 in
theorem poly_Irreducible.calls (k : Nat) (a0 : Int) (r : Bool) (w : World) (h : poly_Irreducible.f k a0 = some r) :
  Calls Tryz.prog 153 #[.int .u32 a0] w fun e w' => e = .returned (.bool r) ∧ Below w.heap.size w w' := by
 have HB := Aside0.mk (Below.refl w.heap.size w)
 have H : ((poly_Deg.f (IntKind.u64.wrap (a0))).bind fun t716 => (if t716 < 1 then (poly_Irreducible.j0 k a0 t716 true) else (if t716 > 16 then (poly_Irreducible.j0 k a0 t716 true) else ((poly_frobenius.f k t716 a0).bind fun t717 => ((poly_Mod.f k 2 a0).bind fun t718 => (poly_Irreducible.j0 k a0 t716 (t717 != t718))))))) = some r := h
 clear h
 replace H := Option.bind_eq_some_iff.mp H
 obtain ⟨t716, A20, H⟩ := H
 replace H : (if t716 < 1 then (poly_Irreducible.j0 k a0 t716 true) else (if t716 > 16 then (poly_Irreducible.j0 k a0 t716 true) else ((poly_frobenius.f k t716 a0).bind fun t717 => ((poly_Mod.f k 2 a0).bind fun t718 => (poly_Irreducible.j0 k a0 t716 (t717 != t718)))))) = some r := H
 have A2 := Aside0.mk A20
 clear A20
 have HC3 := Aside0.mk H
 clear H
 go_enter Tryz.func153, Tryz.ntmps153
 go_upto_region 2 with (first | ((with_reducible refine gate_callee (f := 115) rfl ?_); refine goesL_ (some 7) rfl rfl Tryz.func115 kr_ rfl #[.int .u64 (IntKind.u64.wrap (a0))] rfl ar_ ?_; (with_reducible refine (poly_Deg.calls (IntKind.u64.wrap (a0)) t716 _ A2.out).mono ?_); rintro e w' ⟨rfl, ⟨nd, rfl⟩⟩; refine ⟨_, rfl, ?_⟩))
 (try simp only [Act.put, List.setIfInBounds_toArray, List.set_cons_zero, List.set_cons_succ])
 go_cut [21] (fun v21 wc => ∃ (kq : Nat) (x21_2 : Bool), v21 = .bool x21_2 ∧ Aside0 (poly_Irreducible.j0 kq a0 t716 x21_2 = some r) ∧ Aside0 (kq ≤ k) ∧ Aside0 (Below w.heap.size w wc))
 case first =>
  have H := HC3.out
  clear HC3
  by_cases c4 : t716 < 1
  ·rw [if_pos c4] at H
   have c4b0 : decide (t716 < 1) = true := decide_eq_true c4
   clear c4
   (first | rw [c4b0] | (simp only [i64_w, i32_w]; rw [c4b0]) | skip)
   have H' := Aside0.mk H
   clear H
   go_wp2
   go_meet
   case rel => exact ⟨_, (true), sd_, H', ⟨by first | omega | exact Nat.le_refl _⟩, ⟨bl_⟩⟩
  ·rw [if_neg c4] at H
   have c4b0 : decide (t716 < 1) = false := decide_eq_false c4
   clear c4
   (first | rw [c4b0] | (simp only [i64_w, i32_w]; rw [c4b0]) | skip)
   by_cases c5 : t716 > 16
   ·rw [if_pos c5] at H
    have c5b0 : decide (16 < t716) = true := decide_eq_true c5
    clear c5
    have H' := Aside0.mk H
    clear H
    go_wp2
    go_meet
    case rel => exact ⟨_, (true), sd_, H', ⟨by first | omega | exact Nat.le_refl _⟩, ⟨bl_⟩⟩
   ·rw [if_neg c5] at H
    have c5b0 : decide (16 < t716) = false := decide_eq_false c5
    clear c5
    replace H := Option.bind_eq_some_iff.mp H
    obtain ⟨t717, A60, H⟩ := H
    replace H : ((poly_Mod.f k 2 a0).bind fun t718 => (poly_Irreducible.j0 k a0 t716 (t717 != t718))) = some r := H
    have A6 := Aside0.mk A60
    clear A60
    replace H := Option.bind_eq_some_iff.mp H
    obtain ⟨t718, A70, H⟩ := H
    replace H : (poly_Irreducible.j0 k a0 t716 (t717 != t718)) = some r := H
    have A7 := Aside0.mk A70
    clear A70
    have H' := Aside0.mk H
    clear H
    go_wp2_with (first | (go_at_call 175; (with_reducible refine (poly_frobenius.calls k t716 a0 t717 _ A6.out).mono ?_); rintro e w8 ⟨rfl, hb⟩; have n0_ := Aside0.mk (below_step bl_ hb); clear HB; have HB := n0_; clear n0_; (try clear hb); (try clear hb2); (try clear hk); (try clear hi)) | (go_at_call 154; (with_reducible refine (poly_Mod.calls k 2 a0 t718 _ A7.out).mono ?_); rintro e w' ⟨rfl, ⟨nd, rfl⟩⟩))
    go_meet
    case rel => exact ⟨_, ((t717 != t718)), sd_, H', ⟨by first | omega | exact Nat.le_refl _⟩, ⟨bl_⟩⟩
 case rest =>
  clear HC3
  try clear c1
  try clear p2
  try clear c4
  try clear c4b0
  try clear c5
  try clear c5b0
  obtain ⟨kq, x21_2, rfl, HA, HJ2, HB⟩ := hcut
  cases kq with
  | zero => exact absurd HA.out (by simp [poly_Irreducible.j0])
  | succ kj2 =>
   have H := HA.out
   clear HA
   simp only [poly_Irreducible.j0] at H
   by_cases c9 : x21_2 = true
   ·subst c9
    have H1 : (some false) = some r := by rw [if_pos rfl] at H; exact H
    clear H
    have H := H1
    clear H1
    obtain rfl := Option.some.inj H
    go_wp2
    go_ret
    exact ⟨er_, bl_⟩
   ·replace c9 := Bool.eq_false_iff.mpr c9
    subst c9
    have H1 : (poly_Irreducible.l0 kj2 a0 t716 1) = some r := by rw [if_neg (show ¬ (false = true) by decide)] at H; exact H
    clear H
    have H := H1
    clear H1
    have H' := Aside0.mk H
    clear H
    go_wp2
    go_loopg [4] kj2 (fun kq v4 w' => ∃ (x4_2 : Int), v4 = .int .i64 x4_2 ∧ Aside0 (poly_Irreducible.l0 kq a0 t716 x4_2 = some r) ∧ Aside0 (kq ≤ kj2) ∧ Aside0 (Below w.heap.size w w'))
    case atStart => exact ⟨(1), sd_, H', ⟨Nat.le_refl _⟩, ⟨bl_⟩⟩
    case round =>
     clear H'
     try clear c1
     try clear p2
     try clear c4
     try clear c4b0
     try clear c5
     try clear c5b0
     try clear c9
     try clear p2
     obtain ⟨x4_2, rfl, HA, HK2, HB⟩ := hrel
     cases gk with
     | zero => exact absurd HA.out (by simp [poly_Irreducible.l0])
     | succ k2 =>
      have H := HA.out
      clear HA
      simp only [poly_Irreducible.l0] at H
      by_cases c10 : x4_2 ≤ (wrap64 (Int.tdiv t716 2))
      ·rw [if_pos c10] at H
       have c10b0 : decide (x4_2 ≤ (wrap64 (Int.tdiv t716 2))) = true := decide_eq_true c10
       clear c10
       replace H := Option.bind_eq_some_iff.mp H
       obtain ⟨t719, A110, H⟩ := H
       replace H : ((poly_gcd.f k2 a0 (Go.bits .xor .u32 t719 2)).bind fun t720 => (if t720 = 1 then (poly_Irreducible.l0 k2 a0 t716 (wrap64 (x4_2 + 1))) else (some false))) = some r := H
       have A11 := Aside0.mk A110
       clear A110
       replace H := Option.bind_eq_some_iff.mp H
       obtain ⟨t720, A120, H⟩ := H
       replace H : (if t720 = 1 then (poly_Irreducible.l0 k2 a0 t716 (wrap64 (x4_2 + 1))) else (some false)) = some r := H
       have A12 := Aside0.mk A120
       clear A120
       by_cases c13 : t720 = 1
       ·rw [if_pos c13] at H
        have c13b0 : (t720 == 1) = true := beq_iff_eq.mpr c13
        have c13b1 : (t720 != 1) = false := bne_eq_false_iff_eq.mpr c13
        clear c13
        have H' := Aside0.mk H
        clear H
        go_wp2_with (first | ((with_reducible refine gate_callee (f := 175) rfl ?_); refine goesL_ (some 31) rfl rfl Tryz.func175 kr_ rfl #[.int .i64 x4_2, .int .u32 a0] rfl ar_ ?_; (with_reducible refine (poly_frobenius.calls k2 x4_2 a0 t719 _ A11.out).mono ?_); rintro e w14 ⟨rfl, hb⟩; refine ⟨_, rfl, ?_⟩; have n0_ := Aside0.mk (below_step bl_ hb); clear HB; have HB := n0_; clear n0_; (try clear hb); (try clear hb2); (try clear hk); (try clear hi)) | ((with_reducible refine gate_callee (f := 176) rfl ?_); refine goesL_ (some 33) rfl rfl Tryz.func176 kr_ rfl #[.int .u32 a0, .int .u32 (Go.bits .xor .u32 t719 2)] rfl ar_ ?_; (with_reducible refine (poly_gcd.calls k2 a0 (Go.bits .xor .u32 t719 2) t720 _ A12.out).mono ?_); rintro e w' ⟨rfl, ⟨nd, rfl⟩⟩; refine ⟨_, rfl, ?_⟩))
        go_roundg k2
        case measure => have := HJ2.out; have := HK2.out; omega
        case rel => exact ⟨(wrap64 (x4_2 + 1)), sd_, H', ⟨by have := HJ2.out; have := HK2.out; omega⟩, ⟨bl_⟩⟩
       ·rw [if_neg c13] at H
        have c13b0 : (t720 == 1) = false := beq_eq_false_iff_ne.mpr c13
        have c13b1 : (t720 != 1) = true := bne_iff_ne.mpr c13
        obtain rfl := Option.some.inj H
        go_wp2_with (first | ((with_reducible refine gate_callee (f := 175) rfl ?_); refine goesL_ (some 31) rfl rfl Tryz.func175 kr_ rfl #[.int .i64 x4_2, .int .u32 a0] rfl ar_ ?_; (with_reducible refine (poly_frobenius.calls k2 x4_2 a0 t719 _ A11.out).mono ?_); rintro e w15 ⟨rfl, hb⟩; refine ⟨_, rfl, ?_⟩; have n0_ := Aside0.mk (below_step bl_ hb); clear HB; have HB := n0_; clear n0_; (try clear hb); (try clear hb2); (try clear hk); (try clear hi)) | ((with_reducible refine gate_callee (f := 176) rfl ?_); refine goesL_ (some 33) rfl rfl Tryz.func176 kr_ rfl #[.int .u32 a0, .int .u32 (Go.bits .xor .u32 t719 2)] rfl ar_ ?_; (with_reducible refine (poly_gcd.calls k2 a0 (Go.bits .xor .u32 t719 2) t720 _ A12.out).mono ?_); rintro e w' ⟨rfl, ⟨nd, rfl⟩⟩; refine ⟨_, rfl, ?_⟩))
        go_ret
        exact ⟨er_, bl_⟩
      ·rw [if_neg c10] at H
       have c10b0 : decide (x4_2 ≤ (wrap64 (Int.tdiv t716 2))) = false := decide_eq_false c10
       clear c10
       obtain rfl := Option.some.inj H
       go_wp2
       go_ret
       exact ⟨er_, bl_⟩
structure BB (w w' : World) (g : Nat) : Prop where
 os : w'.os = w.os
 tape : w'.tape = w.tape
 output : w'.output = w.output
 size : w.heap.size ≤ w'.heap.size
 block : ∀ i, i < w.heap.size → i ≠ g → w'.heap[i]? = w.heap[i]?
theorem BB.of_below {w w' : World} (h : Below w.heap.size w w') (g : Nat) : BB w w' g := ⟨h.os, h.tape, h.output, h.size, fun i hi _ => h.block i hi⟩
theorem BB.refl (w : World) (g : Nat) : BB w w g := BB.of_below (Below.refl _ _) g
theorem BB.trans {a b c : World} {g : Nat} (h : BB a b g) (k : BB b c g) : BB a c g :=
 ⟨k.os.trans h.os, k.tape.trans h.tape, k.output.trans h.output, Nat.le_trans h.size k.size, fun i hi hg => (k.block i (Nat.lt_of_lt_of_le hi h.size) hg).trans (h.block i hi hg)⟩
theorem BB.keep {w w' : World} {g : Nat} (h : BB w w' g) : KeepBut w w' g none := ⟨h.size, fun i hi hg _ => h.block i hi hg⟩
theorem BB.below {w0 w w' : World} {g : Nat} (h : BB w w' g) (hB : Below w0.heap.size w0 w) (hg : w0.heap.size ≤ g) : Below w0.heap.size w0 w' :=
 ⟨h.os.trans hB.os, h.tape.trans hB.tape, h.output.trans hB.output, Nat.le_trans hB.size h.size, fun i hi => (h.block i (Nat.lt_of_lt_of_le hi hB.size) (by omega)).trans (hB.block i hi)⟩
theorem BB.drew {a b : World} {g : Nat} (h : BB a b g) : BB a b.drew g := ⟨h.os, h.tape, h.output, h.size, h.block⟩
theorem BB.drewN {a b : World} {g : Nat} (h : BB a b g) (n : Nat) : BB a (b.drewN n) g := ⟨h.os, h.tape, h.output, h.size, h.block⟩
theorem BB.alloc {a b : World} {g : Nat} (h : BB a b g) (o : Obj) : BB a (b.alloc o) g := h.trans (BB.of_below (below_alloc (Below.refl _ _) o) g)
theorem BB.set {a b : World} {g : Nat} (h : BB a b g) (j : Nat) (u : Value) : BB a (b.setCell ⟨g, j, none⟩ u) g :=
 ⟨h.os, h.tape, h.output, by simpa using h.size, fun i hi hg => (Below.heap_setCell b ⟨g, j, none⟩ u i hg).trans (h.block i hi hg)⟩
theorem BB.new {a b : World} {g n : Nat} (h : BB a b g) (hn : a.heap.size ≤ n) (j : Nat) (u : Value) : BB a (b.setCell ⟨n, j, none⟩ u) g :=
 ⟨h.os, h.tape, h.output, by simpa using h.size, fun i hi hg => (Below.heap_setCell b ⟨n, j, none⟩ u i (by show i ≠ n; omega)).trans (h.block i hi hg)⟩
def gpN : Nat → Nat
 | 0 => 1
 | i + 1 => xt 128 285 (gpN i)
def expAt : Nat → List Int
 | 0 => List.replicate 256 0
 | i + 1 => (expAt i).set i (gpN i : Int)
def logAt : Nat → List Int
 | 0 => List.replicate 256 0
 | i + 1 => (logAt i).set (gpN i) (i : Int)
theorem expAt_length : ∀ i, (expAt i).length = 256
 | 0 => List.length_replicate
 | i + 1 => by rw [expAt, List.length_set, expAt_length i]
theorem logAt_length : ∀ i, (logAt i).length = 256
 | 0 => List.length_replicate
 | i + 1 => by rw [logAt, List.length_set, logAt_length i]
theorem gpN_range : ∀ i, i < 256 → 1 ≤ gpN i ∧ gpN i < 256 := by decide +kernel
def freshF (wb p : Int) : Array Value := #[.int .i64 wb, .int .u32 p, .int .u32 0, .int .i32 0, .int .u32 0, .slice none 0 0, .slice none 0 0]
def readyF (wb p : Int) (a b : Nat) : Array Value := #[.int .i64 wb, .int .u32 p, .int .u32 1, .int .i32 0, .int .u32 0, .slice (some ⟨a, 0, none⟩) 256 256, .slice (some ⟨b, 0, none⟩) 256 256]
def Fd (W : World) (g : Nat) (wb p : Int) (S : Nat → Prop) : Prop :=
 ¬ S g ∧ (W.heap[g]? = some (.cells (freshF wb p) 165 (0, 0)) ∨
  (wb = 8 ∧ p = 285 ∧ ∃ a b, W.heap[g]? = some (.cells (readyF wb p a b) 165 (0, 0)) ∧ W.heap[a]? = some (.cells (nums .i64 (expAt 255)).toArray 3 (0, 0)) ∧ W.heap[b]? = some (.cells (nums .i64 (logAt 255)).toArray 3 (0, 0)) ∧ ¬ S a ∧ ¬ S b))
theorem Fd.lt {W : World} {g : Nat} {wb p : Int} {S : Nat → Prop} (h : Fd W g wb p S) : g < W.heap.size := by
 obtain ⟨-, h | ⟨-, -, a, b, h, -⟩⟩ := h
 ·exact blk_lt h
 ·exact blk_lt h
theorem Fd.move {W W1 : World} {g : Nat} {wb p : Int} {S : Nat → Prop} (h : Fd W g wb p S) (hm : ∀ k, ¬ S k → k < W.heap.size → W1.heap[k]? = W.heap[k]?) : Fd W1 g wb p S := by
 obtain ⟨hg, h | ⟨h8, hp, a, b, h, ha, hb, na, nb⟩⟩ := h
 ·exact ⟨hg, .inl ((hm g hg (blk_lt h)).trans h)⟩
 ·exact ⟨hg, .inr ⟨h8, hp, a, b, (hm g hg (blk_lt h)).trans h, (hm a na (blk_lt ha)).trans ha, (hm b nb (blk_lt hb)).trans hb, na, nb⟩⟩
theorem Fd.thin {W : World} {g : Nat} {wb p : Int} {S S' : Nat → Prop} (h : Fd W g wb p S) (hs : ∀ k, k < W.heap.size → S' k → S k) : Fd W g wb p S' := by
 obtain ⟨hg, h | ⟨h8, hp, a, b, h, ha, hb, na, nb⟩⟩ := h
 ·exact ⟨fun s => hg (hs _ (blk_lt h) s), .inl h⟩
 ·exact ⟨fun s => hg (hs _ (blk_lt h) s), .inr ⟨h8, hp, a, b, h, ha, hb, fun s => na (hs _ (blk_lt ha) s), fun s => nb (hs _ (blk_lt hb) s)⟩⟩
theorem Fd.more {W : World} {g : Nat} {wb p : Int} {S : Nat → Prop} (h : Fd W g wb p S) : Fd W g wb p (fun k => S k ∨ W.heap.size ≤ k) := h.thin (fun _ hk hs => hs.resolve_right (by omega))
theorem Fd.below {W W1 : World} {g : Nat} {wb p : Int} {S : Nat → Prop} (h : Fd W g wb p S) (hb : Below W.heap.size W W1) : Fd W1 g wb p S := h.move (fun k _ hk => hb.block k hk)
theorem Fd.alloc {W : World} {g : Nat} {wb p : Int} {S : Nat → Prop} (h : Fd W g wb p S) (o : Obj) : Fd (W.alloc o) g wb p S := h.below (below_alloc (Below.refl _ _) o)
theorem Fd.drew {W : World} {g : Nat} {wb p : Int} {S : Nat → Prop} (h : Fd W g wb p S) : Fd W.drew g wb p S := h
theorem Fd.drewN {W : World} {g : Nat} {wb p : Int} {S : Nat → Prop} (h : Fd W g wb p S) (n : Nat) : Fd (W.drewN n) g wb p S := h
theorem Fd.set {W : World} {g : Nat} {wb p : Int} {S : Nat → Prop} (h : Fd W g wb p S) {q : Addr} (hq : S q.block) (u : Value) : Fd (W.setCell q u) g wb p S :=
 h.move (fun k hk _ => Below.heap_setCell W q u k (fun e => hk (e ▸ hq)))
theorem Fd.bits {W : World} {g : Nat} {wb p : Int} {S : Nat → Prop} (h : Fd W g wb p S) : W.cell? ⟨g, 0, none⟩ = some (.int .i64 wb) := by
 obtain ⟨-, h | ⟨-, -, a, b, h, -⟩⟩ := h
 ·exact (blk_cell h 0).trans rfl
 ·exact (blk_cell h 0).trans rfl
theorem Fd.poly {W : World} {g : Nat} {wb p : Int} {S : Nat → Prop} (h : Fd W g wb p S) : W.cell? ⟨g, 1, none⟩ = some (.int .u32 p) := by
 obtain ⟨-, h | ⟨-, -, a, b, h, -⟩⟩ := h
 ·exact (blk_cell h 1).trans rfl
 ·exact (blk_cell h 1).trans rfl
def fsize (wb : Int) : Int := if wb = 8 then 256 else 65536
def inF (wb a : Int) : Bool := decide (0 ≤ a) && decide (a < fsize wb)
def allIn (wb : Int) (l : List Int) : Bool := l.all fun a => decide (0 ≤ a) && decide (a < fsize wb)
def gmN (wb : Int) (a b : Nat) : Nat := if wb = 8 then gm 7 285 a b else gm 15 69643 a b
def gmul (wb a b : Int) : Int := if inF wb a && inF wb b then (gmN wb a.toNat b.toNat : Int) else 0
def gpwN (wb : Int) (a n : Nat) : Nat := if wb = 8 then gp 7 285 a n else gp 15 69643 a n
def gpow (wb a n : Int) : Int := if inF wb a && decide (0 ≤ n) then (gpwN wb a.toNat n.toNat : Int) else 0
def ginv (wb a : Int) : Int := if inF wb a && a != 0 then gpow wb a (fsize wb - 2) else 0
theorem log_at : ∀ i, i < 255 → (logAt 255).getD (gpN i) 0 = (i : Int) := by decide +kernel
theorem exp_at : ∀ i, i < 255 → (expAt 255).getD i 0 = (gpN i : Int) := by decide +kernel
theorem gpN_255 : gpN 255 = 1 := by decide +kernel
theorem gpN_all : ∀ a, a < 256 → a ≠ 0 → ∃ i, i < 255 ∧ gpN i = a := by
 have h : ∀ a, a < 256 → a ≠ 0 → gpN ((logAt 255).getD a 0).toNat = a ∧ ((logAt 255).getD a 0).toNat < 255 := by decide +kernel
 intro a ha h0
 exact ⟨_, (h a ha h0).2, (h a ha h0).1⟩
theorem gpN_lt8 : ∀ i, gpN i < 2 ^ (7 + 1)
 | 0 => by decide
 | i + 1 => xt_lt 7 285 _ (gpN_lt8 i) gf8.toGf.hq gf8.toGf.hq1
theorem gf8_pow_mul : ∀ (i j : Nat), j < 256 → gm 7 285 (gpN i) (gpN j) = gpN (i + j)
 | 0, j, hj => by
  rw [Nat.zero_add]
  exact gf8.toGf.one_left (gpN_range j hj).2
 | i + 1, j, hj => by
  have hl := gpN_lt8 i
  show gm 7 285 (xt (2 ^ 7) 285 (gpN i)) (gpN j) = _
  rw [gf8.toGf.xt_left hl, gf8_pow_mul i j hj, show i + 1 + j = i + j + 1 from by omega]
  rfl
theorem gpN_succ (i : Nat) : gpN (i + 1) = xt 128 285 (gpN i) := rfl
theorem gpN_period : ∀ i, gpN (i + 255) = gpN i
 | 0 => gpN_255
 | i + 1 => by
  rw [show i + 1 + 255 = (i + 255) + 1 from by omega, gpN_succ (i + 255), gpN_succ i, gpN_period i]
theorem gpN_mod (i : Nat) : gpN i = gpN (i % 255) := by
 have h : ∀ k r, gpN (r + 255 * k) = gpN r := by
  intro k
  induction k with
  | zero => intro r; rfl
  | succ k ih => intro r; rw [show r + 255 * (k + 1) = (r + 255 * k) + 255 from by omega, gpN_period, ih]
 have := h (i / 255) (i % 255)
 rwa [Nat.mod_add_div] at this
theorem tab_mul (a b : Nat) (ha : a < 256) (hb : b < 256) (ha0 : a ≠ 0) (hb0 : b ≠ 0) : ∃ i j : Nat, i < 255 ∧ j < 255 ∧ (logAt 255).getD a 0 = (i : Int) ∧ (logAt 255).getD b 0 = (j : Int) ∧ gpN ((i + j) % 255) = gm 7 285 a b := by
 obtain ⟨i, hi, rfl⟩ := gpN_all a ha ha0
 obtain ⟨j, hj, rfl⟩ := gpN_all b hb hb0
 exact ⟨i, j, hi, hj, log_at i hi, log_at j hj, by rw [← gpN_mod, gf8_pow_mul i j (by omega)]⟩
theorem gmul_out {wb a b : Int} (h : (inF wb a && inF wb b) = false) : gmul wb a b = 0 := by simp [gmul, h]
theorem gmul_zero_left (wb b : Int) : gmul wb 0 b = 0 := by
 unfold gmul
 split
 ·rw [Int.toNat_zero]; unfold gmN; split <;> rw [Gf.zero_left] <;> rfl
 ·rfl
theorem gmul_zero_right (wb a : Int) : gmul wb a 0 = 0 := by
 unfold gmul
 split
 ·rw [Int.toNat_zero]; unfold gmN; split <;> rw [Gf.zero_right] <;> rfl
 ·rfl
theorem gmN_lt {wb : Int} (hw : wb = 8 ∨ wb = 16) {a : Nat} (b : Nat) (ha : (a : Int) < fsize wb) : (gmN wb a b : Int) < fsize wb := by
 rcases hw with rfl | rfl
 ·have := gf8.toGf.lt (a := a) (b := b) (by simp [fsize] at ha; omega)
  simp only [gmN, fsize, if_true]; omega
 ·have := gf16.toGf.lt (a := a) (b := b) (by simp [fsize] at ha; omega)
  simp only [gmN, fsize, show ¬ ((16 : Int) = 8) by decide, if_false]; omega
theorem gmul_range {wb : Int} (hw : wb = 8 ∨ wb = 16) (a b : Int) : 0 ≤ gmul wb a b ∧ gmul wb a b < fsize wb := by
 have hz : (0 : Int) < fsize wb := by rcases hw with rfl | rfl <;> decide
 unfold gmul
 split
 ·rename_i h
  simp only [Bool.and_eq_true, inF, decide_eq_true_eq] at h
  exact ⟨by omega, gmN_lt hw _ (by omega)⟩
 ·omega
end Go.Proofs.YtelcllhibpnneaaGreat.XCo
end
