-- Joined by this work's own program (wip/tools/bundle.py) out of its texts: what this claim uses of them. Not trusted: Lean checks it.
import Derived.Test.YtpdakdcmahlghaaGreatBReconFew13
section
namespace Go.Proofs.YtpdakdcmahlghaaGreat.XCo
open Go.RowKit Go.Proofs.YtpdakdcmahlghaaGreatW.PrintWords Go.Proofs.YtpdakdcmahlghaaGreatW.PrintLast Go.Proofs.YtpdakdcmahlghaaGreatW.PrintMore
attribute [local go_sem] axz ayz aDz aEz apz aqz azz aAz
set_option linter.unusedVariables false
set_option linter.unusedSimpArgs false
def bFz.f (k : Nat) (a0_0 : Int) (a0_1 : Int) (a0_2 : Int) (l1 : List Int) : Option ((List (List Int)) × Int) := (aIz.f k a0_0 a0_1 a0_2 l1).bind fun bt132 => (if bt132.2 = 0 then ((alz.f k a0_0 a0_1 a0_2 bt132.1).bind fun bt136 => (if bt132.1.length + bt136.1.length < 5864062014805 then (some ((bt132.1 ++ bt136.1), bt136.2)) else (none))) else (some (([] : List (List Int)), bt132.2)))
set_option maxHeartbeats 8000000 in
set_option maxRecDepth 100000 in
theorem bFz.calls (k : Nat) (a0_0 : Int) (a0_1 : Int) (a0_2 : Int) (A1 : Option Addr) (c1 : Nat) (l1 : List Int) (r1 : List (List Int)) (r2 : Int) (w : World) (hr1 : Kd.C (Kd.int .u8) w A1 l1.length l1) (hc1 : l1.length ≤ c1) (h : bFz.f k a0_0 a0_1 a0_2 l1 = some (r1, r2)) :
  Calls Tryz.prog 24 #[.agg #[.int .i64 a0_0, .int .i64 a0_1, .int .i64 a0_2], .slice A1 l1.length c1] w fun e w' => ∃ v0_ : Value, e = .returned (.tuple #[v0_, .int .i64 r2]) ∧ Kd.N (Kd.slice 5 (Kd.int .u8)) 34 w' w.heap.size (fun k_ => (w.heap.size ≤ k_)) v0_ r1 ∧ Below w.heap.size w w' := by
 have hu23 := Tryz.underlying23
 have HR1 := Aside0.mk hr1
 have HC1 := Aside0.mk hc1
 clear hr1 hc1
 have HB := Aside0.mk (Below.refl w.heap.size w)
 have H := h
 clear h
 unfold bFz.f at H
 obtain ⟨⟨t132, t135⟩, A3, H⟩ := ob_ H
 (try dsimp only at H)
 by_cases c4 : t135 = 0
 rotate_left
 ·rw [if_neg c4] at H
  have c4b0 : (t135 == 0) = false := beq_eq_false_iff_ne.mpr c4
  have c4b1 : (t135 != 0) = true := bne_iff_ne.mpr c4
  simp only [Option.some.injEq, Prod.mk.injEq] at H
  obtain ⟨rfl, rfl⟩ := H
  go_enter Tryz.func24, Tryz.ntmps24
  go_wp2_with (first | ((with_reducible refine avz (N := 2) rfl ?_); refine bx_ 2 #[.int .i64 a0_0, .int .i64 a0_1, .int .i64 a0_2] 23 ?_; intro gb131 hg w15 hbox hb; have n_ := And.intro (hs_ HB hb) (And.intro (Aside0.mk (hbox)) (And.intro (ag_ HB gb131) (ag_ HB gb131))); clear HB; obtain ⟨HB, BK131, GW131, GE131⟩ := n_; clear hb hbox hg; obtain ⟨hcz16_0, hfz16_0, hcz16_1, hfz16_1, hcz16_2, hfz16_2⟩ := bc3_ BK131.out) | ((with_reducible refine ajz (f := 55) rfl ?_); refine gl_ (some 12) Tryz.func55 #[.agg #[.int .i64 a0_0, .int .i64 a0_1, .int .i64 a0_2], .slice A1 l1.length c1] ?_; (with_reducible refine (aIz.calls k a0_0 a0_1 a0_2 _ _ l1 t132 t135 _ (xd_ (Kd.aGz HR1.out HB.out)) (HC1.out) A3.out).mono ?_); rintro e w17 ⟨v133, rfl, ho0, hb⟩; refine ⟨_, rfl, ?_⟩; have n_ := And.intro (Aside0.mk (Kd.ckz (Kd.b2z (ok' := fun k_ => (w.heap.size ≤ k_) ∧ k_ ≠ gb131) (Kd.S_N (Kd.aZz ho0)) (fun k_ hk_ => ⟨(Nat.le_trans (aSz bl_) hk_.2.1), (Kd.freshB (g := gb131) (o := .cells #[.int .i64 a0_0, .int .i64 a0_1, .int .i64 a0_2] 23 (0, 0)) bk_ k_ hk_.2.1)⟩)) (aSz bl_))) (And.intro (bb_ BK131 hb) (hs_ HB hb)); clear BK131 HB; obtain ⟨HO134, BK131, HB⟩ := n_; clear hb ho0))
  go_ret2
  exact ⟨_, er_, nl_, bl_⟩
 rw [if_pos c4] at H
 have c4b0 : (t135 == 0) = true := beq_iff_eq.mpr c4
 have c4b1 : (t135 != 0) = false := bne_eq_false_iff_eq.mpr c4
 clear c4
 obtain ⟨⟨t136, t139⟩, A5, H⟩ := ob_ H
 (try dsimp only at H)
 by_cases c6 : t132.length + t136.length < 5864062014805
 rotate_left
 ·rw [if_neg c6] at H
  exact absurd H (by simp)
 rw [if_pos c6] at H
 have LMc6 := Aside0.mk c6
 clear c6
 obtain ⟨y140, hy140⟩ : ∃ y_ : List (List Int), y_ = (t132 ++ t136) := ⟨_, rfl⟩
 first | rw [Option.bind_some, ← hy140] at H | rw [← hy140] at H
 (try dsimp only at H)
 have Ny140 := Aside0.mk hy140
 clear hy140
 simp only [Option.some.injEq, Prod.mk.injEq] at H
 obtain ⟨rfl, rfl⟩ := H
 go_enter Tryz.func24, Tryz.ntmps24
 go_wp2_with (first | ((with_reducible refine avz (N := 2) rfl ?_); refine bx_ 2 #[.int .i64 a0_0, .int .i64 a0_1, .int .i64 a0_2] 23 ?_; intro gb131 hg w7 hbox hb; have n_ := And.intro (hs_ HB hb) (And.intro (Aside0.mk (hbox)) (And.intro (ag_ HB gb131) (ag_ HB gb131))); clear HB; obtain ⟨HB, BK131, GW131, GE131⟩ := n_; clear hb hbox hg; obtain ⟨hcz8_0, hfz8_0, hcz8_1, hfz8_1, hcz8_2, hfz8_2⟩ := bc3_ BK131.out) | ((with_reducible refine ajz (f := 55) rfl ?_); refine gl_ (some 12) Tryz.func55 #[.agg #[.int .i64 a0_0, .int .i64 a0_1, .int .i64 a0_2], .slice A1 l1.length c1] ?_; (with_reducible refine (aIz.calls k a0_0 a0_1 a0_2 _ _ l1 t132 t135 _ (xd_ (Kd.aGz HR1.out HB.out)) (HC1.out) A3.out).mono ?_); rintro e w9 ⟨v133, rfl, ho0, hb⟩; refine ⟨_, rfl, ?_⟩; have n_ := And.intro (Aside0.mk (Kd.ckz (Kd.b2z (ok' := fun k_ => (w.heap.size ≤ k_) ∧ k_ ≠ gb131) (Kd.S_N (Kd.aZz ho0)) (fun k_ hk_ => ⟨(Nat.le_trans (aSz bl_) hk_.2.1), (Kd.freshB (g := gb131) (o := .cells #[.int .i64 a0_0, .int .i64 a0_1, .int .i64 a0_2] 23 (0, 0)) bk_ k_ hk_.2.1)⟩)) (aSz bl_))) (And.intro (bb_ BK131 hb) (hs_ HB hb)); clear BK131 HB; obtain ⟨HO134, BK131, HB⟩ := n_; clear hb ho0; obtain ⟨hcz10_0, hfz10_0, hcz10_1, hfz10_1, hcz10_2, hfz10_2⟩ := bc3_ BK131.out; obtain ⟨Ao11, co11, eo11⟩ := Kd.cJz HO134.out; subst eo11) | ((with_reducible refine ajz (f := 19) rfl ?_); refine gl_ (some 21) Tryz.func19 #[.agg #[.int .i64 a0_0, .int .i64 a0_1, .int .i64 a0_2], .slice Ao11 t132.length co11] ?_; (with_reducible refine (alz.calls k a0_0 a0_1 a0_2 _ _ t132 t136 t139 _ (xd_ (Kd.bQz HO134.out).2.2) ((Kd.bQz HO134.out).2.1) A5.out).mono ?_); rintro e w12 ⟨v137, rfl, ho0, hb⟩; refine ⟨_, rfl, ?_⟩; have n_ := And.intro (Aside0.mk (Kd.cQz (xd_ HO134.out) (Kd.S_base ho0) hb)) (And.intro (Aside0.mk (Kd.ckz (Kd.b2z (ok' := fun k_ => (w.heap.size ≤ k_) ∧ some k_ ≠ (.slice Ao11 t132.length co11 : Value).ownBlock ∧ k_ ≠ gb131) (Kd.S_N (Kd.aZz ho0)) (fun k_ hk_ => ⟨(Nat.le_trans (aSz bl_) hk_.2.1), (Kd.fresh' (Kd.N_lt (xd_ HO134.out)) k_ hk_.2.1), (Kd.freshB (g := gb131) (o := .cells #[.int .i64 a0_0, .int .i64 a0_1, .int .i64 a0_2] 23 (0, 0)) bk_ k_ hk_.2.1)⟩)) (aSz bl_))) (And.intro (bb_ BK131 hb) (hs_ HB hb))); clear HO134 BK131 HB; obtain ⟨HO134, HO138, BK131, HB⟩ := n_; clear hb ho0; obtain ⟨Ao14, co14, eo14⟩ := Kd.cJz HO138.out; subst eo14) | ((with_reducible refine asz (b := .append) (xs := #[.tmp 24, .tmp 25]) rfl ?_); at_builtin; refine Kd.duz (Kd.slice 5 (Kd.int .u8)) (w0 := w) w.heap.size rfl (.tmp 24) (.tmp 25) 24 34 (.slice none 0 0) 24 rfl Tryz.underlying24 info34 rfl (by decide) (by omega) (.slice Ao11 t132.length co11) t132 t136 _ _ _ (fun k_ => (w.heap.size ≤ k_) ∧ k_ ≠ gb131) (fun k_ => ((fun k_ => (w.heap.size ≤ k_) ∧ k_ ≠ gb131)) k_ ∧ some k_ ≠ (.slice Ao11 t132.length co11 : Value).ownBlock) rfl rfl ?aO ?aR (fun _ hk => hk) ?aF ?aB ?aS ?aL ?_; (case aR => exact (by skip; exact Kd.N_F (Kd.b2z (ok' := (fun k_ => ((fun k_ => (w.heap.size ≤ k_) ∧ k_ ≠ gb131)) k_ ∧ some k_ ≠ (.slice Ao11 t132.length co11 : Value).ownBlock)) (HO138.out) (fun k_ hk => ⟨⟨hk.1, hk.2.2⟩, hk.2.1⟩)))); (case aB => exact bl_); (case aF => exact (fun k_ hk => ⟨(Nat.le_trans (aSz bl_) hk), Kd.freshB (g := gb131) (o := .cells #[.int .i64 a0_0, .int .i64 a0_1, .int .i64 a0_2] 23 (0, 0)) bk_ k_ hk⟩)); (case aO => exact (nm_ HO134)); (case aS => exact (aSz bl_)); (case aL => have := LMc6.out; omega); intro v141 w13 ho hb hg hat; rw [← Ny140.out] at ho; have n_ := And.intro (Aside0.mk (blk_grown (g := gb131) (o := .cells #[.int .i64 a0_0, .int .i64 a0_1, .int .i64 a0_2] 23 (0, 0)) bk_ hg (Kd.N_ne HO134.out BK131.out (by decide)))) (And.intro (Aside0.mk (Kd.N_afterv (ok := (fun k_ => (w.heap.size ≤ k_) ∧ k_ ≠ gb131)) (nm_ HO138) hg hat)) (And.intro (Aside0.mk (hb)) (Aside0.mk (ho)))); clear BK131 HO138 HB HO134; obtain ⟨BK131, HO138, HB, HO142⟩ := n_; clear ho hb hg hat))
 go_ret2
 exact ⟨_, er_, nm_ HO142, bl_⟩
def bmz.f (a0 : Int) : Option (ByteArray × Int × Int × Int × Int × Bool) := if a0 = 1 then (some ((⟨#[106, 118]⟩ : ByteArray), 8, 285, 106, 4, true)) else (if a0 = 2 then (some ((⟨#[106, 99]⟩ : ByteArray), 16, 69643, 106, 4, true)) else (if a0 = 3 then (some ((⟨#[105, 114]⟩ : ByteArray), 8, 285, 105, 3, true)) else (if a0 = 4 then (some ((⟨#[105, 99]⟩ : ByteArray), 8, 285, 105, 4, true)) else (if a0 = 5 then (some ((⟨#[98, 98]⟩ : ByteArray), 8, 285, 98, 4, true)) else (if a0 = 6 then (some ((⟨#[107, 112]⟩ : ByteArray), 8, 285, 112, 4, true)) else (some ((⟨#[]⟩ : ByteArray), 0, 0, 0, 0, false)))))))
set_option maxHeartbeats 8000000 in
set_option maxRecDepth 100000 in
theorem bmz.calls (a0 : Int) (r1 : ByteArray) (r2 : Int) (r3 : Int) (r4 : Int) (r5 : Int) (r6 : Bool) (w : World) (h : bmz.f a0 = some (r1, r2, r3, r4, r5, r6)) :
  Calls Tryz.prog 50 #[.int .i64 a0] w fun e w' => e = .returned (.tuple #[.agg #[.string r1, .int .i64 r2, .int .u32 r3, .int .u8 r4, .int .i64 r5], .bool r6]) ∧ Below w.heap.size w w' := by
 have hu79 := Tryz.underlying79
 have HB := Aside0.mk (Below.refl w.heap.size w)
 have H := h
 clear h
 unfold bmz.f at H
 by_cases c2 : a0 = 1
 ·rw [if_pos c2] at H
  have c2b0 : (a0 == 1) = true := beq_iff_eq.mpr c2
  have c2b1 : (a0 != 1) = false := bne_eq_false_iff_eq.mpr c2
  clear c2
  simp only [Option.some.injEq, Prod.mk.injEq] at H
  obtain ⟨rfl, rfl, rfl, rfl, rfl, rfl⟩ := H
  go_enter Tryz.func50, Tryz.ntmps50
  go_wp2_with (first | ((with_reducible refine avz (N := 2) rfl ?_); refine aXz ?hg (N := 2) ?hd (cs := #[.string (⟨#[]⟩ : ByteArray), .int .i64 0, .int .u32 0, .int .u8 0, .int .i64 0]) (t := 79) ?hr ?_; (case hd => rfl); (case hg => rfl); (case hr => first | (go_simp; done) | (go_simp; rfl)); intro gb143 hg w3 hbox hb; have n_ := And.intro (hs_ HB hb) (And.intro (Aside0.mk (hbox)) (And.intro (ag_ HB gb143) (ag_ HB gb143))); clear HB; obtain ⟨HB, BK143, GW143, GE143⟩ := n_; clear hb hbox hg; obtain ⟨hcz4_0, hfz4_0, hcz4_1, hfz4_1, hcz4_2, hfz4_2, hcz4_3, hfz4_3, hcz4_4, hfz4_4⟩ := bc5_ BK143.out))
  refine bodyPost_ret (bPz rfl _ _ gb143 79 #[.string (⟨#[106, 118]⟩ : ByteArray), .int .i64 8, .int .u32 285, .int .u8 106, .int .i64 4] (0, 0) _ rfl (by (with_reducible repeat (first | refine adz ?_ _ | refine afz ?_ | refine acz ?_ _)); refine atz (cs := #[.string (⟨#[106, 118]⟩ : ByteArray), .int .i64 8, .int .u32 285, .int .u8 106, .int .i64 0]) ?_ 4 _ rfl; (with_reducible repeat (first | refine adz ?_ _ | refine afz ?_ | refine acz ?_ _)); refine atz (cs := #[.string (⟨#[106, 118]⟩ : ByteArray), .int .i64 8, .int .u32 285, .int .u8 0, .int .i64 0]) ?_ 3 _ rfl; (with_reducible repeat (first | refine adz ?_ _ | refine afz ?_ | refine acz ?_ _)); refine atz (cs := #[.string (⟨#[106, 118]⟩ : ByteArray), .int .i64 8, .int .u32 0, .int .u8 0, .int .i64 0]) ?_ 2 _ rfl; (with_reducible repeat (first | refine adz ?_ _ | refine afz ?_ | refine acz ?_ _)); refine atz (cs := #[.string (⟨#[106, 118]⟩ : ByteArray), .int .i64 0, .int .u32 0, .int .u8 0, .int .i64 0]) ?_ 1 _ rfl; (with_reducible repeat (first | refine adz ?_ _ | refine afz ?_ | refine acz ?_ _)); refine atz (cs := #[.string (⟨#[]⟩ : ByteArray), .int .i64 0, .int .u32 0, .int .u8 0, .int .i64 0]) ?_ 0 _ rfl; (with_reducible repeat (first | refine adz ?_ _ | refine afz ?_ | refine acz ?_ _)); exact BK143.out) Tryz.underlying79 rfl kr_) rfl ?_
  exact ⟨er_, bl_⟩
 ·rw [if_neg c2] at H
  have c2b0 : (a0 == 1) = false := beq_eq_false_iff_ne.mpr c2
  have c2b1 : (a0 != 1) = true := bne_iff_ne.mpr c2
  by_cases c5 : a0 = 2
  ·rw [if_pos c5] at H
   have c5b0 : (a0 == 2) = true := beq_iff_eq.mpr c5
   have c5b1 : (a0 != 2) = false := bne_eq_false_iff_eq.mpr c5
   clear c5
   simp only [Option.some.injEq, Prod.mk.injEq] at H
   obtain ⟨rfl, rfl, rfl, rfl, rfl, rfl⟩ := H
   go_enter Tryz.func50, Tryz.ntmps50
   go_wp2_with (first | ((with_reducible refine avz (N := 2) rfl ?_); refine aXz ?hg (N := 2) ?hd (cs := #[.string (⟨#[]⟩ : ByteArray), .int .i64 0, .int .u32 0, .int .u8 0, .int .i64 0]) (t := 79) ?hr ?_; (case hd => rfl); (case hg => rfl); (case hr => first | (go_simp; done) | (go_simp; rfl)); intro gb143 hg w6 hbox hb; have n_ := And.intro (hs_ HB hb) (And.intro (Aside0.mk (hbox)) (And.intro (ag_ HB gb143) (ag_ HB gb143))); clear HB; obtain ⟨HB, BK143, GW143, GE143⟩ := n_; clear hb hbox hg; obtain ⟨hcz7_0, hfz7_0, hcz7_1, hfz7_1, hcz7_2, hfz7_2, hcz7_3, hfz7_3, hcz7_4, hfz7_4⟩ := bc5_ BK143.out))
   refine bodyPost_ret (bPz rfl _ _ gb143 79 #[.string (⟨#[106, 99]⟩ : ByteArray), .int .i64 16, .int .u32 69643, .int .u8 106, .int .i64 4] (0, 0) _ rfl (by (with_reducible repeat (first | refine adz ?_ _ | refine afz ?_ | refine acz ?_ _)); refine atz (cs := #[.string (⟨#[106, 99]⟩ : ByteArray), .int .i64 16, .int .u32 69643, .int .u8 106, .int .i64 0]) ?_ 4 _ rfl; (with_reducible repeat (first | refine adz ?_ _ | refine afz ?_ | refine acz ?_ _)); refine atz (cs := #[.string (⟨#[106, 99]⟩ : ByteArray), .int .i64 16, .int .u32 69643, .int .u8 0, .int .i64 0]) ?_ 3 _ rfl; (with_reducible repeat (first | refine adz ?_ _ | refine afz ?_ | refine acz ?_ _)); refine atz (cs := #[.string (⟨#[106, 99]⟩ : ByteArray), .int .i64 16, .int .u32 0, .int .u8 0, .int .i64 0]) ?_ 2 _ rfl; (with_reducible repeat (first | refine adz ?_ _ | refine afz ?_ | refine acz ?_ _)); refine atz (cs := #[.string (⟨#[106, 99]⟩ : ByteArray), .int .i64 0, .int .u32 0, .int .u8 0, .int .i64 0]) ?_ 1 _ rfl; (with_reducible repeat (first | refine adz ?_ _ | refine afz ?_ | refine acz ?_ _)); refine atz (cs := #[.string (⟨#[]⟩ : ByteArray), .int .i64 0, .int .u32 0, .int .u8 0, .int .i64 0]) ?_ 0 _ rfl; (with_reducible repeat (first | refine adz ?_ _ | refine afz ?_ | refine acz ?_ _)); exact BK143.out) Tryz.underlying79 rfl kr_) rfl ?_
   exact ⟨er_, bl_⟩
  ·rw [if_neg c5] at H
   have c5b0 : (a0 == 2) = false := beq_eq_false_iff_ne.mpr c5
   have c5b1 : (a0 != 2) = true := bne_iff_ne.mpr c5
   by_cases c8 : a0 = 3
   ·rw [if_pos c8] at H
    have c8b0 : (a0 == 3) = true := beq_iff_eq.mpr c8
    have c8b1 : (a0 != 3) = false := bne_eq_false_iff_eq.mpr c8
    clear c8
    simp only [Option.some.injEq, Prod.mk.injEq] at H
    obtain ⟨rfl, rfl, rfl, rfl, rfl, rfl⟩ := H
    go_enter Tryz.func50, Tryz.ntmps50
    go_wp2_with (first | ((with_reducible refine avz (N := 2) rfl ?_); refine aXz ?hg (N := 2) ?hd (cs := #[.string (⟨#[]⟩ : ByteArray), .int .i64 0, .int .u32 0, .int .u8 0, .int .i64 0]) (t := 79) ?hr ?_; (case hd => rfl); (case hg => rfl); (case hr => first | (go_simp; done) | (go_simp; rfl)); intro gb143 hg w9 hbox hb; have n_ := And.intro (hs_ HB hb) (And.intro (Aside0.mk (hbox)) (And.intro (ag_ HB gb143) (ag_ HB gb143))); clear HB; obtain ⟨HB, BK143, GW143, GE143⟩ := n_; clear hb hbox hg; obtain ⟨hcz10_0, hfz10_0, hcz10_1, hfz10_1, hcz10_2, hfz10_2, hcz10_3, hfz10_3, hcz10_4, hfz10_4⟩ := bc5_ BK143.out))
    refine bodyPost_ret (bPz rfl _ _ gb143 79 #[.string (⟨#[105, 114]⟩ : ByteArray), .int .i64 8, .int .u32 285, .int .u8 105, .int .i64 3] (0, 0) _ rfl (by (with_reducible repeat (first | refine adz ?_ _ | refine afz ?_ | refine acz ?_ _)); refine atz (cs := #[.string (⟨#[105, 114]⟩ : ByteArray), .int .i64 8, .int .u32 285, .int .u8 105, .int .i64 0]) ?_ 4 _ rfl; (with_reducible repeat (first | refine adz ?_ _ | refine afz ?_ | refine acz ?_ _)); refine atz (cs := #[.string (⟨#[105, 114]⟩ : ByteArray), .int .i64 8, .int .u32 285, .int .u8 0, .int .i64 0]) ?_ 3 _ rfl; (with_reducible repeat (first | refine adz ?_ _ | refine afz ?_ | refine acz ?_ _)); refine atz (cs := #[.string (⟨#[105, 114]⟩ : ByteArray), .int .i64 8, .int .u32 0, .int .u8 0, .int .i64 0]) ?_ 2 _ rfl; (with_reducible repeat (first | refine adz ?_ _ | refine afz ?_ | refine acz ?_ _)); refine atz (cs := #[.string (⟨#[105, 114]⟩ : ByteArray), .int .i64 0, .int .u32 0, .int .u8 0, .int .i64 0]) ?_ 1 _ rfl; (with_reducible repeat (first | refine adz ?_ _ | refine afz ?_ | refine acz ?_ _)); refine atz (cs := #[.string (⟨#[]⟩ : ByteArray), .int .i64 0, .int .u32 0, .int .u8 0, .int .i64 0]) ?_ 0 _ rfl; (with_reducible repeat (first | refine adz ?_ _ | refine afz ?_ | refine acz ?_ _)); exact BK143.out) Tryz.underlying79 rfl kr_) rfl ?_
    exact ⟨er_, bl_⟩
   ·rw [if_neg c8] at H
    have c8b0 : (a0 == 3) = false := beq_eq_false_iff_ne.mpr c8
    have c8b1 : (a0 != 3) = true := bne_iff_ne.mpr c8
    by_cases c11 : a0 = 4
    ·rw [if_pos c11] at H
     have c11b0 : (a0 == 4) = true := beq_iff_eq.mpr c11
     have c11b1 : (a0 != 4) = false := bne_eq_false_iff_eq.mpr c11
     clear c11
     simp only [Option.some.injEq, Prod.mk.injEq] at H
     obtain ⟨rfl, rfl, rfl, rfl, rfl, rfl⟩ := H
     go_enter Tryz.func50, Tryz.ntmps50
     go_wp2_with (first | ((with_reducible refine avz (N := 2) rfl ?_); refine aXz ?hg (N := 2) ?hd (cs := #[.string (⟨#[]⟩ : ByteArray), .int .i64 0, .int .u32 0, .int .u8 0, .int .i64 0]) (t := 79) ?hr ?_; (case hd => rfl); (case hg => rfl); (case hr => first | (go_simp; done) | (go_simp; rfl)); intro gb143 hg w12 hbox hb; have n_ := And.intro (hs_ HB hb) (And.intro (Aside0.mk (hbox)) (And.intro (ag_ HB gb143) (ag_ HB gb143))); clear HB; obtain ⟨HB, BK143, GW143, GE143⟩ := n_; clear hb hbox hg; obtain ⟨hcz13_0, hfz13_0, hcz13_1, hfz13_1, hcz13_2, hfz13_2, hcz13_3, hfz13_3, hcz13_4, hfz13_4⟩ := bc5_ BK143.out))
     refine bodyPost_ret (bPz rfl _ _ gb143 79 #[.string (⟨#[105, 99]⟩ : ByteArray), .int .i64 8, .int .u32 285, .int .u8 105, .int .i64 4] (0, 0) _ rfl (by (with_reducible repeat (first | refine adz ?_ _ | refine afz ?_ | refine acz ?_ _)); refine atz (cs := #[.string (⟨#[105, 99]⟩ : ByteArray), .int .i64 8, .int .u32 285, .int .u8 105, .int .i64 0]) ?_ 4 _ rfl; (with_reducible repeat (first | refine adz ?_ _ | refine afz ?_ | refine acz ?_ _)); refine atz (cs := #[.string (⟨#[105, 99]⟩ : ByteArray), .int .i64 8, .int .u32 285, .int .u8 0, .int .i64 0]) ?_ 3 _ rfl; (with_reducible repeat (first | refine adz ?_ _ | refine afz ?_ | refine acz ?_ _)); refine atz (cs := #[.string (⟨#[105, 99]⟩ : ByteArray), .int .i64 8, .int .u32 0, .int .u8 0, .int .i64 0]) ?_ 2 _ rfl; (with_reducible repeat (first | refine adz ?_ _ | refine afz ?_ | refine acz ?_ _)); refine atz (cs := #[.string (⟨#[105, 99]⟩ : ByteArray), .int .i64 0, .int .u32 0, .int .u8 0, .int .i64 0]) ?_ 1 _ rfl; (with_reducible repeat (first | refine adz ?_ _ | refine afz ?_ | refine acz ?_ _)); refine atz (cs := #[.string (⟨#[]⟩ : ByteArray), .int .i64 0, .int .u32 0, .int .u8 0, .int .i64 0]) ?_ 0 _ rfl; (with_reducible repeat (first | refine adz ?_ _ | refine afz ?_ | refine acz ?_ _)); exact BK143.out) Tryz.underlying79 rfl kr_) rfl ?_
     exact ⟨er_, bl_⟩
    ·rw [if_neg c11] at H
     have c11b0 : (a0 == 4) = false := beq_eq_false_iff_ne.mpr c11
     have c11b1 : (a0 != 4) = true := bne_iff_ne.mpr c11
     by_cases c14 : a0 = 5
     ·rw [if_pos c14] at H
      have c14b0 : (a0 == 5) = true := beq_iff_eq.mpr c14
      have c14b1 : (a0 != 5) = false := bne_eq_false_iff_eq.mpr c14
      clear c14
      simp only [Option.some.injEq, Prod.mk.injEq] at H
      obtain ⟨rfl, rfl, rfl, rfl, rfl, rfl⟩ := H
      go_enter Tryz.func50, Tryz.ntmps50
      go_wp2_with (first | ((with_reducible refine avz (N := 2) rfl ?_); refine aXz ?hg (N := 2) ?hd (cs := #[.string (⟨#[]⟩ : ByteArray), .int .i64 0, .int .u32 0, .int .u8 0, .int .i64 0]) (t := 79) ?hr ?_; (case hd => rfl); (case hg => rfl); (case hr => first | (go_simp; done) | (go_simp; rfl)); intro gb143 hg w15 hbox hb; have n_ := And.intro (hs_ HB hb) (And.intro (Aside0.mk (hbox)) (And.intro (ag_ HB gb143) (ag_ HB gb143))); clear HB; obtain ⟨HB, BK143, GW143, GE143⟩ := n_; clear hb hbox hg; obtain ⟨hcz16_0, hfz16_0, hcz16_1, hfz16_1, hcz16_2, hfz16_2, hcz16_3, hfz16_3, hcz16_4, hfz16_4⟩ := bc5_ BK143.out))
      refine bodyPost_ret (bPz rfl _ _ gb143 79 #[.string (⟨#[98, 98]⟩ : ByteArray), .int .i64 8, .int .u32 285, .int .u8 98, .int .i64 4] (0, 0) _ rfl (by (with_reducible repeat (first | refine adz ?_ _ | refine afz ?_ | refine acz ?_ _)); refine atz (cs := #[.string (⟨#[98, 98]⟩ : ByteArray), .int .i64 8, .int .u32 285, .int .u8 98, .int .i64 0]) ?_ 4 _ rfl; (with_reducible repeat (first | refine adz ?_ _ | refine afz ?_ | refine acz ?_ _)); refine atz (cs := #[.string (⟨#[98, 98]⟩ : ByteArray), .int .i64 8, .int .u32 285, .int .u8 0, .int .i64 0]) ?_ 3 _ rfl; (with_reducible repeat (first | refine adz ?_ _ | refine afz ?_ | refine acz ?_ _)); refine atz (cs := #[.string (⟨#[98, 98]⟩ : ByteArray), .int .i64 8, .int .u32 0, .int .u8 0, .int .i64 0]) ?_ 2 _ rfl; (with_reducible repeat (first | refine adz ?_ _ | refine afz ?_ | refine acz ?_ _)); refine atz (cs := #[.string (⟨#[98, 98]⟩ : ByteArray), .int .i64 0, .int .u32 0, .int .u8 0, .int .i64 0]) ?_ 1 _ rfl; (with_reducible repeat (first | refine adz ?_ _ | refine afz ?_ | refine acz ?_ _)); refine atz (cs := #[.string (⟨#[]⟩ : ByteArray), .int .i64 0, .int .u32 0, .int .u8 0, .int .i64 0]) ?_ 0 _ rfl; (with_reducible repeat (first | refine adz ?_ _ | refine afz ?_ | refine acz ?_ _)); exact BK143.out) Tryz.underlying79 rfl kr_) rfl ?_
      exact ⟨er_, bl_⟩
     ·rw [if_neg c14] at H
      have c14b0 : (a0 == 5) = false := beq_eq_false_iff_ne.mpr c14
      have c14b1 : (a0 != 5) = true := bne_iff_ne.mpr c14
      by_cases c17 : a0 = 6
      ·rw [if_pos c17] at H
       have c17b0 : (a0 == 6) = true := beq_iff_eq.mpr c17
       have c17b1 : (a0 != 6) = false := bne_eq_false_iff_eq.mpr c17
       clear c17
       simp only [Option.some.injEq, Prod.mk.injEq] at H
       obtain ⟨rfl, rfl, rfl, rfl, rfl, rfl⟩ := H
       go_enter Tryz.func50, Tryz.ntmps50
       go_wp2_with (first | ((with_reducible refine avz (N := 2) rfl ?_); refine aXz ?hg (N := 2) ?hd (cs := #[.string (⟨#[]⟩ : ByteArray), .int .i64 0, .int .u32 0, .int .u8 0, .int .i64 0]) (t := 79) ?hr ?_; (case hd => rfl); (case hg => rfl); (case hr => first | (go_simp; done) | (go_simp; rfl)); intro gb143 hg w18 hbox hb; have n_ := And.intro (hs_ HB hb) (And.intro (Aside0.mk (hbox)) (And.intro (ag_ HB gb143) (ag_ HB gb143))); clear HB; obtain ⟨HB, BK143, GW143, GE143⟩ := n_; clear hb hbox hg; obtain ⟨hcz19_0, hfz19_0, hcz19_1, hfz19_1, hcz19_2, hfz19_2, hcz19_3, hfz19_3, hcz19_4, hfz19_4⟩ := bc5_ BK143.out))
       refine bodyPost_ret (bPz rfl _ _ gb143 79 #[.string (⟨#[107, 112]⟩ : ByteArray), .int .i64 8, .int .u32 285, .int .u8 112, .int .i64 4] (0, 0) _ rfl (by (with_reducible repeat (first | refine adz ?_ _ | refine afz ?_ | refine acz ?_ _)); refine atz (cs := #[.string (⟨#[107, 112]⟩ : ByteArray), .int .i64 8, .int .u32 285, .int .u8 112, .int .i64 0]) ?_ 4 _ rfl; (with_reducible repeat (first | refine adz ?_ _ | refine afz ?_ | refine acz ?_ _)); refine atz (cs := #[.string (⟨#[107, 112]⟩ : ByteArray), .int .i64 8, .int .u32 285, .int .u8 0, .int .i64 0]) ?_ 3 _ rfl; (with_reducible repeat (first | refine adz ?_ _ | refine afz ?_ | refine acz ?_ _)); refine atz (cs := #[.string (⟨#[107, 112]⟩ : ByteArray), .int .i64 8, .int .u32 0, .int .u8 0, .int .i64 0]) ?_ 2 _ rfl; (with_reducible repeat (first | refine adz ?_ _ | refine afz ?_ | refine acz ?_ _)); refine atz (cs := #[.string (⟨#[107, 112]⟩ : ByteArray), .int .i64 0, .int .u32 0, .int .u8 0, .int .i64 0]) ?_ 1 _ rfl; (with_reducible repeat (first | refine adz ?_ _ | refine afz ?_ | refine acz ?_ _)); refine atz (cs := #[.string (⟨#[]⟩ : ByteArray), .int .i64 0, .int .u32 0, .int .u8 0, .int .i64 0]) ?_ 0 _ rfl; (with_reducible repeat (first | refine adz ?_ _ | refine afz ?_ | refine acz ?_ _)); exact BK143.out) Tryz.underlying79 rfl kr_) rfl ?_
       exact ⟨er_, bl_⟩
      ·rw [if_neg c17] at H
       have c17b0 : (a0 == 6) = false := beq_eq_false_iff_ne.mpr c17
       have c17b1 : (a0 != 6) = true := bne_iff_ne.mpr c17
       simp only [Option.some.injEq, Prod.mk.injEq] at H
       obtain ⟨rfl, rfl, rfl, rfl, rfl, rfl⟩ := H
       go_enter Tryz.func50, Tryz.ntmps50
       go_wp2_with (first | ((with_reducible refine avz (N := 2) rfl ?_); refine aXz ?hg (N := 2) ?hd (cs := #[.string (⟨#[]⟩ : ByteArray), .int .i64 0, .int .u32 0, .int .u8 0, .int .i64 0]) (t := 79) ?hr ?_; (case hd => rfl); (case hg => rfl); (case hr => first | (go_simp; done) | (go_simp; rfl)); intro gb143 hg w20 hbox hb; have n_ := And.intro (hs_ HB hb) (And.intro (Aside0.mk (hbox)) (And.intro (ag_ HB gb143) (ag_ HB gb143))); clear HB; obtain ⟨HB, BK143, GW143, GE143⟩ := n_; clear hb hbox hg; obtain ⟨hcz21_0, hfz21_0, hcz21_1, hfz21_1, hcz21_2, hfz21_2, hcz21_3, hfz21_3, hcz21_4, hfz21_4⟩ := bc5_ BK143.out))
       refine bodyPost_ret (bPz rfl _ _ gb143 79 #[.string (⟨#[]⟩ : ByteArray), .int .i64 0, .int .u32 0, .int .u8 0, .int .i64 0] (0, 0) _ rfl (by (with_reducible repeat (first | refine adz ?_ _ | refine afz ?_ | refine acz ?_ _)); refine atz (cs := #[.string (⟨#[]⟩ : ByteArray), .int .i64 0, .int .u32 0, .int .u8 0, .int .i64 0]) ?_ 4 _ rfl; (with_reducible repeat (first | refine adz ?_ _ | refine afz ?_ | refine acz ?_ _)); refine atz (cs := #[.string (⟨#[]⟩ : ByteArray), .int .i64 0, .int .u32 0, .int .u8 0, .int .i64 0]) ?_ 3 _ rfl; (with_reducible repeat (first | refine adz ?_ _ | refine afz ?_ | refine acz ?_ _)); refine atz (cs := #[.string (⟨#[]⟩ : ByteArray), .int .i64 0, .int .u32 0, .int .u8 0, .int .i64 0]) ?_ 2 _ rfl; (with_reducible repeat (first | refine adz ?_ _ | refine afz ?_ | refine acz ?_ _)); refine atz (cs := #[.string (⟨#[]⟩ : ByteArray), .int .i64 0, .int .u32 0, .int .u8 0, .int .i64 0]) ?_ 1 _ rfl; (with_reducible repeat (first | refine adz ?_ _ | refine afz ?_ | refine acz ?_ _)); refine atz (cs := #[.string (⟨#[]⟩ : ByteArray), .int .i64 0, .int .u32 0, .int .u8 0, .int .i64 0]) ?_ 0 _ rfl; (with_reducible repeat (first | refine adz ?_ _ | refine afz ?_ | refine acz ?_ _)); exact BK143.out) Tryz.underlying79 rfl kr_) rfl ?_
       exact ⟨er_, bl_⟩
def baz.f (a0_0 : Int) (a0_1 : Int) (a0_2 : Int) : Option (Int × Int × Int) := (bmz.f (wrap64 (1 + (Int.tmod (wrap64 (a0_0)) 6)))).bind fun bt147 => (if bt147.2.2.2.2.1 = 0 then (none) else (some (wrap64 (1 + (Int.tmod (wrap64 (a0_0)) 6)), wrap64 (1 + (Int.tmod (wrap64 (a0_1)) 8)), wrap64 (1 + (Int.tmod (wrap64 (a0_2)) bt147.2.2.2.2.1)))))
set_option maxHeartbeats 8000000 in
set_option maxRecDepth 100000 in
theorem baz.calls (a0_0 : Int) (a0_1 : Int) (a0_2 : Int) (r1 : Int) (r2 : Int) (r3 : Int) (w : World) (h : baz.f a0_0 a0_1 a0_2 = some (r1, r2, r3)) :
  Calls Tryz.prog 31 #[.agg #[.int .u8 a0_0, .int .u8 a0_1, .int .u8 a0_2]] w fun e w' => e = .returned (.agg #[.int .i64 r1, .int .i64 r2, .int .i64 r3]) ∧ Below w.heap.size w w' := by
 have hu42 := Tryz.underlying42
 have hu23 := Tryz.underlying23
 have hu79 := Tryz.underlying79
 have HB := Aside0.mk (Below.refl w.heap.size w)
 have H := h
 clear h
 unfold baz.f at H
 obtain ⟨⟨t147, t148, t149, t150, t151, t152⟩, A2, H⟩ := ob_ H
 (try dsimp only at H)
 by_cases c3 : t151 = 0
 ·rw [if_pos c3] at H
  exact absurd H (by simp)
 ·rw [if_neg c3] at H
  have c3b0 : (t151 == 0) = false := beq_eq_false_iff_ne.mpr c3
  have c3b1 : (t151 != 0) = true := bne_iff_ne.mpr c3
  simp only [Option.some.injEq, Prod.mk.injEq] at H
  obtain ⟨rfl, rfl, rfl⟩ := H
  go_enter Tryz.func31, Tryz.ntmps31
  go_wp2_with (first | ((with_reducible refine avz (N := 1) rfl ?_); refine bx_ 1 #[.int .u8 a0_0, .int .u8 a0_1, .int .u8 a0_2] 42 ?_; intro gb144 hg w4 hbox hb; have n_ := And.intro (hs_ HB hb) (And.intro (Aside0.mk (hbox)) (And.intro (ag_ HB gb144) (ag_ HB gb144))); clear HB; obtain ⟨HB, BK144, GW144, GE144⟩ := n_; clear hb hbox hg) | ((with_reducible refine avz (N := 2) rfl ?_); refine bx_ 2 #[.int .i64 0, .int .i64 0, .int .i64 0] 23 ?_; intro gb145 hg w5 hbox hb; have n_ := And.intro (bb_ BK144 hb) (And.intro (hs_ HB hb) (And.intro (Aside0.mk (hbox)) (And.intro (ag_ HB gb145) (And.intro (ag_ HB gb145) (And.intro (n1_ BK144 gb145) (n2_ BK144 gb145)))))); clear BK144 HB; obtain ⟨BK144, HB, BK145, GW145, GE145, NB144_145, NB145_144⟩ := n_; clear hb hbox hg; have hnb6 := NB144_145.out; have hnc6 := NB145_144.out; obtain ⟨hcz7_0, hfz7_0, hcz7_1, hfz7_1, hcz7_2, hfz7_2⟩ := bc3_ BK144.out) | ((with_reducible refine avz (N := 3) rfl ?_); refine bx_ 3 #[.int .i64 0, .int .i64 0, .int .i64 0] 23 ?_; intro gb146 hg w8 hbox hb; have n_ := And.intro (bb_ BK144 hb) (And.intro (bb_ BK145 hb) (And.intro (hs_ HB hb) (And.intro (Aside0.mk (hbox)) (And.intro (ag_ HB gb146) (And.intro (ag_ HB gb146) (And.intro (n1_ BK144 gb146) (And.intro (n2_ BK144 gb146) (And.intro (n1_ BK145 gb146) (n2_ BK145 gb146))))))))); clear BK144 BK145 HB; obtain ⟨BK144, BK145, HB, BK146, GW146, GE146, NB144_146, NB146_144, NB145_146, NB146_145⟩ := n_; clear hb hbox hg; have hnb9 := NB146_144.out; have hnc9 := NB144_146.out; have hnb10 := NB146_145.out; have hnc10 := NB145_146.out; obtain ⟨hcz11_0, hfz11_0, hcz11_1, hfz11_1, hcz11_2, hfz11_2⟩ := bc3_ BK146.out) | ((with_reducible refine ajz (f := 50) rfl ?_); refine gl_ (some 20) Tryz.func50 #[.int .i64 (wrap64 (1 + (Int.tmod (wrap64 (a0_0)) 6)))] ?_; (with_reducible refine (bmz.calls (wrap64 (1 + (Int.tmod (wrap64 (a0_0)) 6))) t147 t148 t149 t150 t151 t152 _ A2.out).mono ?_); rintro e w12 ⟨rfl, hb⟩; refine ⟨_, rfl, ?_⟩; have n_ := And.intro (Aside0.mk (agz (g := gb144) (o := .cells #[.int .u8 a0_0, .int .u8 a0_1, .int .u8 a0_2] 42 (0, 0)) (by (with_reducible repeat (first | refine adz ?_ _ | refine afz ?_ | refine acz ?_ _)); refine auz ?_ NB144_146.out _; (with_reducible repeat (first | refine adz ?_ _ | refine afz ?_ | refine acz ?_ _)); refine auz ?_ NB144_146.out _; (with_reducible repeat (first | refine adz ?_ _ | refine afz ?_ | refine acz ?_ _)); refine auz ?_ NB144_146.out _; (with_reducible repeat (first | refine adz ?_ _ | refine afz ?_ | refine acz ?_ _)); exact BK144.out) hb)) (And.intro (Aside0.mk (agz (g := gb145) (o := .cells #[.int .i64 0, .int .i64 0, .int .i64 0] 23 (0, 0)) (by (with_reducible repeat (first | refine adz ?_ _ | refine afz ?_ | refine acz ?_ _)); refine auz ?_ NB145_146.out _; (with_reducible repeat (first | refine adz ?_ _ | refine afz ?_ | refine acz ?_ _)); refine auz ?_ NB145_146.out _; (with_reducible repeat (first | refine adz ?_ _ | refine afz ?_ | refine acz ?_ _)); refine auz ?_ NB145_146.out _; (with_reducible repeat (first | refine adz ?_ _ | refine afz ?_ | refine acz ?_ _)); exact BK145.out) hb)) (And.intro (Aside0.mk (agz (g := gb146) (o := .cells #[.int .i64 (wrap64 (1 + (Int.tmod (wrap64 (a0_0)) 6))), .int .i64 (wrap64 (1 + (Int.tmod (wrap64 (a0_1)) 8))), .int .i64 0] 23 (0, 0)) (by (with_reducible repeat (first | refine adz ?_ _ | refine afz ?_ | refine acz ?_ _)); refine atz (cs := #[.int .i64 (wrap64 (1 + (Int.tmod (wrap64 (a0_0)) 6))), .int .i64 (wrap64 (1 + (Int.tmod (wrap64 (a0_1)) 8))), .int .i64 0]) ?_ 2 _ rfl; (with_reducible repeat (first | refine adz ?_ _ | refine afz ?_ | refine acz ?_ _)); refine atz (cs := #[.int .i64 (wrap64 (1 + (Int.tmod (wrap64 (a0_0)) 6))), .int .i64 0, .int .i64 0]) ?_ 1 _ rfl; (with_reducible repeat (first | refine adz ?_ _ | refine afz ?_ | refine acz ?_ _)); refine atz (cs := #[.int .i64 0, .int .i64 0, .int .i64 0]) ?_ 0 _ rfl; (with_reducible repeat (first | refine adz ?_ _ | refine afz ?_ | refine acz ?_ _)); exact BK146.out) hb)) (hs_ HB hb))); clear BK144 BK145 BK146 HB; obtain ⟨BK144, BK145, BK146, HB⟩ := n_; (try clear hb)) | ((with_reducible refine avz (N := 4) rfl ?_); refine aXz ?hg (N := 4) ?hd (cs := #[.string (⟨#[]⟩ : ByteArray), .int .i64 0, .int .u32 0, .int .u8 0, .int .i64 0]) (t := 79) ?hr ?_; (case hd => rfl); (case hg => rfl); (case hr => first | (go_simp; done) | (go_simp; rfl)); intro gb153 hg w13 hbox hb; have n_ := And.intro (bb_ BK144 hb) (And.intro (bb_ BK145 hb) (And.intro (bb_ BK146 hb) (And.intro (hs_ HB hb) (And.intro (Aside0.mk (hbox)) (And.intro (ag_ HB gb153) (And.intro (ag_ HB gb153) (And.intro (n1_ BK144 gb153) (And.intro (n2_ BK144 gb153) (And.intro (n1_ BK145 gb153) (And.intro (n2_ BK145 gb153) (And.intro (n1_ BK146 gb153) (n2_ BK146 gb153)))))))))))); clear BK144 BK145 BK146 HB; obtain ⟨BK144, BK145, BK146, HB, BK153, GW153, GE153, NB144_153, NB153_144, NB145_153, NB153_145, NB146_153, NB153_146⟩ := n_; clear hb hbox hg; have hnb14 := NB153_144.out; have hnc14 := NB144_153.out; have hnb15 := NB153_145.out; have hnc15 := NB145_153.out; have hnb16 := NB153_146.out; have hnc16 := NB146_153.out; obtain ⟨hcz17_0, hfz17_0, hcz17_1, hfz17_1, hcz17_2, hfz17_2, hcz17_3, hfz17_3, hcz17_4, hfz17_4⟩ := bc5_ BK153.out; obtain ⟨hcz18_0, hfz18_0, hcz18_1, hfz18_1, hcz18_2, hfz18_2⟩ := bc3_ BK144.out; obtain ⟨hcz19_0, hfz19_0, hcz19_1, hfz19_1, hcz19_2, hfz19_2⟩ := bc3_ BK146.out; obtain ⟨hcz20_0, hfz20_0, hcz20_1, hfz20_1, hcz20_2, hfz20_2⟩ := bc3_ BK145.out))
  refine bodyPost_ret (results_cell_row rfl _ _ gb145 23 #[.int .i64 (wrap64 (1 + (Int.tmod (wrap64 (a0_0)) 6))), .int .i64 (wrap64 (1 + (Int.tmod (wrap64 (a0_1)) 8))), .int .i64 (wrap64 (1 + (Int.tmod (wrap64 (a0_2)) t151)))] (0, 0) _ rfl (by (with_reducible repeat (first | refine adz ?_ _ | refine afz ?_ | refine acz ?_ _)); refine atz (cs := #[.int .i64 (wrap64 (1 + (Int.tmod (wrap64 (a0_0)) 6))), .int .i64 (wrap64 (1 + (Int.tmod (wrap64 (a0_1)) 8))), .int .i64 0]) ?_ 2 _ rfl; (with_reducible repeat (first | refine adz ?_ _ | refine afz ?_ | refine acz ?_ _)); refine atz (cs := #[.int .i64 (wrap64 (1 + (Int.tmod (wrap64 (a0_0)) 6))), .int .i64 0, .int .i64 0]) ?_ 1 _ rfl; (with_reducible repeat (first | refine adz ?_ _ | refine afz ?_ | refine acz ?_ _)); refine atz (cs := #[.int .i64 0, .int .i64 0, .int .i64 0]) ?_ 0 _ rfl; (with_reducible repeat (first | refine adz ?_ _ | refine afz ?_ | refine acz ?_ _)); refine auz ?_ NB145_146.out _; (with_reducible repeat (first | refine adz ?_ _ | refine afz ?_ | refine acz ?_ _)); refine auz ?_ NB145_153.out _; (with_reducible repeat (first | refine adz ?_ _ | refine afz ?_ | refine acz ?_ _)); refine auz ?_ NB145_153.out _; (with_reducible repeat (first | refine adz ?_ _ | refine afz ?_ | refine acz ?_ _)); refine auz ?_ NB145_153.out _; (with_reducible repeat (first | refine adz ?_ _ | refine afz ?_ | refine acz ?_ _)); refine auz ?_ NB145_153.out _; (with_reducible repeat (first | refine adz ?_ _ | refine afz ?_ | refine acz ?_ _)); refine auz ?_ NB145_153.out _; (with_reducible repeat (first | refine adz ?_ _ | refine afz ?_ | refine acz ?_ _)); exact BK145.out) Tryz.underlying23 rfl kr_) rfl ?_
  exact ⟨er_, bl_⟩
mutual
def aez.l0 : Nat → Int → Int → Int → Int → List Bool → Int → Option (List Bool)
 | 0, _, _, _, _, _, _ => none
 | k + 1, x0, x1, x2, x3, x9, x10 => if x10 < x0 then (if x9.length < 140737488355328 then (aez.l0 k x0 x1 x2 x3 (x9 ++ [true]) (wrap64 (x10 + 1))) else (none)) else (if x0 = 0 then (none) else (aez.l1 k x0 x1 x3 x9 (Int.tmod x2 x0) 0))
def aez.l1 : Nat → Int → Int → Int → List Bool → Int → Int → Option (List Bool)
 | 0, _, _, _, _, _, _ => none
 | k + 1, x0, x1, x3, x9, x11, x12 => if x12 < x1 then (aez.j2 k x0 x1 x3 x9 x11 x12 (decide (x12 < x0))) else (aez.j2 k x0 x1 x3 x9 x11 x12 false)
def aez.j2 : Nat → Int → Int → Int → List Bool → Int → Int → Bool → Option (List Bool)
 | 0, _, _, _, _, _, _, _ => none
 | k + 1, x0, x1, x3, x9, x11, x12, x31 => if x31 = true then (aez.l2 k x0 x1 x3 x9 x11 x12) else (some x9)
def aez.l2 : Nat → Int → Int → Int → List Bool → Int → Int → Option (List Bool)
 | 0, _, _, _, _, _, _ => none
 | k + 1, x0, x1, x3, x9, x11, x12 => if 0 ≤ x11 then (if x11 < (x9.length : Int) then (if rdOf false x9 x11 = true then (if x0 = 0 then (none) else (aez.l1 k x0 x1 x3 (x9.set (x11 : Int).toNat false) (Int.tmod (wrap64 (x11 + x3)) x0) (wrap64 (x12 + 1)))) else (if x0 = 0 then (none) else (aez.l2 k x0 x1 x3 x9 (Int.tmod (wrap64 (x11 + 1)) x0) x12))) else (none)) else (none)
end
def aez.f (k : Nat) (a0 : Int) (a1 : Int) (a2 : Int) (a3 : Int) : Option (List Bool) := aez.l0 k a0 a1 a2 a3 ([] : List Bool) 0
set_option maxHeartbeats 8000000 in
set_option maxRecDepth 100000 in
theorem aez.calls (k : Nat) (a0 : Int) (a1 : Int) (a2 : Int) (a3 : Int) (r : List Bool) (w : World) (h : aez.f k a0 a1 a2 a3 = some r) :
  Calls Tryz.prog 32 #[.int .i64 a0, .int .i64 a1, .int .i64 a2, .int .i64 a3] w fun e w' => ∃ v0_ : Value, e = .returned (v0_) ∧ Kd.R Kd.bool 4 w' w.heap.size (fun _ => True) v0_ r ∧ Below w.heap.size w w' := by
 have HB := Aside0.mk (Below.refl w.heap.size w)
 have H := h
 clear h
 unfold aez.f at H
 have H' := Aside0.mk H
 clear H
 go_enter Tryz.func32, Tryz.ntmps32
 go_wp2
 go_loopg [9, 10] k (fun kq v9 v10 w' => ∃ (x9_1 : List Bool) (x10_1 : Int), v10 = .int .i64 x10_1 ∧ Aside0 (aez.l0 kq a0 a1 a2 a3 x9_1 x10_1 = some r) ∧ Aside0 (kq ≤ k) ∧ Aside0 (Kd.R Kd.bool 4 w' w.heap.size (fun _ => True) v9 x9_1) ∧ Aside0 (Below w.heap.size w w'))
 case atStart => exact ⟨(([] : List Bool)), (0), sd_, H', ⟨Nat.le_refl _⟩, ⟨nl_⟩, ⟨bl_⟩⟩
 clear H'
 try clear p2
 try clear c3
 obtain ⟨x9_1, x10_1, rfl, HA, HK1, HO_9, HB⟩ := hrel
 rcases gk with _ | k1
 ·exact absurd HA.out (by simp [aez.l0])
 have H := HA.out
 clear HA
 simp only [aez.l0] at H
 by_cases c5 : x10_1 < a0
 ·rw [if_pos c5] at H
  have c5b0 := decide_eq_true c5
  clear c5
  by_cases c6 : x9_1.length < 140737488355328
  rotate_left
  ·rw [if_neg c6] at H
   exact absurd H (by simp)
  rw [if_pos c6] at H
  have LMc6 := Aside0.mk c6
  clear c6
  obtain ⟨y335, hy335⟩ : ∃ y_ : List Bool, y_ = (x9_1 ++ [true]) := ⟨_, rfl⟩
  first | rw [Option.bind_some, ← hy335] at H | rw [← hy335] at H
  (try dsimp only at H)
  have Ny335 := Aside0.mk hy335
  clear hy335
  have H' := Aside0.mk H
  clear H
  go_wp2_with (first | ((with_reducible refine asz (b := .append) (xs := #[.tmp 18, .tmp 19]) rfl ?_); at_builtin; refine Kd.bJz Kd.bool (w0 := w) w.heap.size rfl (.tmp 18) (.tmp 19) 38 4 (.bool false) 1 rfl Tryz.underlying38 info4 rfl (by decide) (by omega) u9 x9_1 true [.bool true] (fun _ => True) (fun _ => False) rfl rfl ?aP (fun _ hk => hk.elim) ?aF ?aO ?aB ?aS ?aL ?_; (case aP => exact rfl); (case aB => exact bl_); (case aF => exact (fun _ _ => trivial)); (case aO => exact (xd_ HO_9.out)); (case aS => exact (aSz bl_)); (case aL => have := LMc6.out; omega); intro v336 w7 ho hb hg hat; rw [← Ny335.out] at ho; have n_ := And.intro (Aside0.mk (hb)) (Aside0.mk (ho)); clear HB HO_9; obtain ⟨HB, HO337⟩ := n_; clear ho hb hg hat))
  go_roundg k1
  case measure => have := HK1.out; omega
  case rel => exact ⟨(y335), (wrap64 (x10_1 + 1)), sd_, H', ⟨by have := HK1.out; omega⟩, ⟨xd_ HO337.out⟩, ⟨bl_⟩⟩
 ·rw [if_neg c5] at H
  have c5b0 := decide_eq_false c5
  clear c5
  by_cases c8 : a0 = 0
  ·rw [if_pos c8] at H
   exact absurd H (by simp)
  ·rw [if_neg c8] at H
   have c8b0 : (a0 == 0) = false := beq_eq_false_iff_ne.mpr c8
   have c8b1 : (a0 != 0) = true := bne_iff_ne.mpr c8
   have H' := Aside0.mk H
   clear H
   go_wp2
   go_loopg [11, 12] k1 (fun kq v11 v12 w' => ∃ (x9_2 : List Bool) (x11_2 : Int) (x12_2 : Int), v11 = .int .i64 x11_2 ∧ v12 = .int .i64 x12_2 ∧ Aside0 (aez.l1 kq a0 a1 a3 x9_2 x11_2 x12_2 = some r) ∧ Aside0 (kq ≤ k1) ∧ Aside0 (Kd.R Kd.bool 4 w' w.heap.size (fun _ => True) u9 x9_2) ∧ Aside0 (Below w.heap.size w w'))
   case atStart => exact ⟨(x9_1), (Int.tmod a2 a0), (0), sd_, sd_, H', ⟨Nat.le_refl _⟩, ⟨xd_ HO_9.out⟩, ⟨bl_⟩⟩
   clear H'
   try clear p2
   try clear c3
   try clear c5
   try clear c5b0
   try clear c6
   try clear p6
   try clear c8
   try clear c8b0
   try clear c8b1
   try clear p2
   obtain ⟨x9_2, x11_2, x12_2, rfl, rfl, HA, HK2, HO_9, HB⟩ := hrel
   rcases gk with _ | k2
   ·exact absurd HA.out (by simp [aez.l1])
   have H := HA.out
   clear HA
   simp only [aez.l1] at H
   have HC9 := Aside0.mk H
   clear H
   go_upto_region 8 with (fail)
   go_cut [31] (fun v31 wc => ∃ (kq : Nat) (x31_8 : Bool), v31 = .bool x31_8 ∧ Aside0 (aez.j2 kq a0 a1 a3 x9_2 x11_2 x12_2 x31_8 = some r) ∧ Aside0 (kq ≤ k2) ∧ Aside0 (Kd.R Kd.bool 4 wc w.heap.size (fun _ => True) u9 x9_2) ∧ Aside0 (Below w.heap.size w wc))
   case first =>
    have H := HC9.out
    clear HC9
    by_cases c10 : x12_2 < a1
    ·rw [if_pos c10] at H
     have c10b0 := decide_eq_true c10
     clear c10
     (first | rw [c10b0] | (simp only [i64_w, i32_w]; rw [c10b0]) | skip)
     have H' := Aside0.mk H
     clear H
     go_wp2
     go_meet
     case rel => exact ⟨_, (decide (x12_2 < a0)), sd_, H', ⟨by have := HK1.out; have := HK2.out; first | omega | exact Nat.le_refl _⟩, ⟨xd_ HO_9.out⟩, ⟨bl_⟩⟩
    ·rw [if_neg c10] at H
     have c10b0 := decide_eq_false c10
     clear c10
     (first | rw [c10b0] | (simp only [i64_w, i32_w]; rw [c10b0]) | skip)
     have H' := Aside0.mk H
     clear H
     go_wp2
     go_meet
     case rel => exact ⟨_, (false), sd_, H', ⟨by have := HK1.out; have := HK2.out; first | omega | exact Nat.le_refl _⟩, ⟨xd_ HO_9.out⟩, ⟨bl_⟩⟩
   case rest =>
    clear HC9
    try clear c1
    try clear p2
    try clear c3
    try clear c5
    try clear c5b0
    try clear c6
    try clear p6
    try clear c8
    try clear c8b0
    try clear c8b1
    try clear c10
    try clear c10b0
    try clear p2
    try clear p6
    obtain ⟨kq, x31_8, rfl, HA, HJ8, HO_9, HB⟩ := hcut
    rcases kq with _ | kj8
    ·exact absurd HA.out (by simp [aez.j2])
    have H := HA.out
    clear HA
    simp only [aez.j2] at H
    by_cases c11 : x31_8 = true
    rotate_left
    ·replace c11 := Bool.eq_false_iff.mpr c11
     subst c11
     rw [if_neg (show ¬ (false = true) by decide)] at H
     obtain rfl := Option.some.inj H
     go_wp2
     go_ret
     exact ⟨_, er_, xd_ HO_9.out, bl_⟩
    subst c11
    rw [if_pos rfl] at H
    have H' := Aside0.mk H
    clear H
    go_wp2
    go_loopg [11] kj8 (fun kq v11 w' => ∃ (x11_4 : Int), v11 = .int .i64 x11_4 ∧ Aside0 (aez.l2 kq a0 a1 a3 x9_2 x11_4 x12_2 = some r) ∧ Aside0 (kq ≤ kj8) ∧ Aside0 (Kd.R Kd.bool 4 w' w.heap.size (fun _ => True) u9 x9_2) ∧ Aside0 (Below w.heap.size w w'))
    case atStart => exact ⟨(x11_2), sd_, H', ⟨Nat.le_refl _⟩, ⟨xd_ HO_9.out⟩, ⟨bl_⟩⟩
    clear H'
    try clear c1
    try clear p2
    try clear c3
    try clear c5
    try clear c5b0
    try clear c6
    try clear p6
    try clear c8
    try clear c8b0
    try clear c8b1
    try clear c10
    try clear c10b0
    try clear c11
    try clear p2
    try clear p6
    obtain ⟨x11_4, rfl, HA, HK4, HO_9, HB⟩ := hrel
    rcases gk with _ | k4
    ·exact absurd HA.out (by simp [aez.l2])
    have H := HA.out
    clear HA
    simp only [aez.l2] at H
    by_cases c12 : 0 ≤ x11_4
    rotate_left
    ·rw [if_neg c12] at H
     exact absurd H (by simp)
    rw [if_pos c12] at H
    have c12b0 := decide_eq_true c12
    clear c12
    by_cases c13 : x11_4 < (x9_2.length : Int)
    rotate_left
    ·rw [if_neg c13] at H
     exact absurd H (by simp)
    rw [if_pos c13] at H
    have c13b0 := decide_eq_true c13
    clear c13
    obtain ⟨bq14, hbq14⟩ : ∃ b_ : Bool, b_ = (rdOf false x9_2 x11_4) := ⟨_, rfl⟩
    replace H : (if bq14 = true then (if a0 = 0 then (none) else (aez.l1 k4 a0 a1 a3 (x9_2.set (x11_4 : Int).toNat false) (Int.tmod (wrap64 (x11_4 + a3)) a0) (wrap64 (x12_2 + 1)))) else (if a0 = 0 then (none) else (aez.l2 k4 a0 a1 a3 x9_2 (Int.tmod (wrap64 (x11_4 + 1)) a0) x12_2))) = some r := by rw [← hbq14] at H; exact H
    have Nbq14 := Aside0.mk hbq14
    clear hbq14
    by_cases c15 : bq14 = true
    rotate_left
    ·replace c15 := Bool.eq_false_iff.mpr c15
     subst c15
     rw [if_neg (show ¬ (false = true) by decide)] at H
     by_cases c21 : a0 = 0
     ·rw [if_pos c21] at H
      exact absurd H (by simp)
     ·rw [if_neg c21] at H
      have c21b0 : (a0 == 0) = false := beq_eq_false_iff_ne.mpr c21
      have c21b1 : (a0 != 0) = true := bne_iff_ne.mpr c21
      have H' := Aside0.mk H
      clear H
      obtain ⟨Ao22, co22, eo22⟩ := Kd.aKz HO_9.out
      subst eo22
      have p338 : 0 ≤ (x11_4 : Int) := of_decide_eq_true as_
      have q338 : x11_4 < (x9_2.length : Int) := of_decide_eq_true as_
      obtain ⟨ad338, e338, hx338_0⟩ := Kd.at_bool (Kd.aLz HO_9.out).2.2 x11_4 p338 q338
      (try rw [← Nbq14.out] at hx338_0)
      cases e338
      replace p338 := eq_true p338
      replace q338 := eq_true q338
      go_wp2
      go_roundg k4
      case measure => have := HK1.out; have := HK2.out; have := HJ8.out; have := HK4.out; omega
      case rel => exact ⟨(Int.tmod (wrap64 (x11_4 + 1)) a0), sd_, H', ⟨by have := HK1.out; have := HK2.out; have := HJ8.out; have := HK4.out; omega⟩, ⟨xd_ HO_9.out⟩, ⟨bl_⟩⟩
    subst c15
    rw [if_pos rfl] at H
    obtain ⟨y339, hy339⟩ : ∃ y_ : List Bool, y_ = (x9_2.set (x11_4 : Int).toNat false) := ⟨_, rfl⟩
    first | rw [Option.bind_some, ← hy339] at H | rw [← hy339] at H
    (try dsimp only at H)
    have Ny339 := Aside0.mk hy339
    clear hy339
    by_cases c17 : a0 = 0
    ·rw [if_pos c17] at H
     exact absurd H (by simp)
    ·rw [if_neg c17] at H
     have c17b0 : (a0 == 0) = false := beq_eq_false_iff_ne.mpr c17
     have c17b1 : (a0 != 0) = true := bne_iff_ne.mpr c17
     have H' := Aside0.mk H
     clear H
     obtain ⟨Ao18, co18, eo18⟩ := Kd.aKz HO_9.out
     subst eo18
     have p338 : 0 ≤ (x11_4 : Int) := of_decide_eq_true as_
     have q338 : x11_4 < (x9_2.length : Int) := of_decide_eq_true as_
     obtain ⟨ad338, e338, hx338_0⟩ := Kd.at_bool (Kd.aLz HO_9.out).2.2 x11_4 p338 q338
     (try rw [← Nbq14.out] at hx338_0)
     cases e338
     replace p338 := eq_true p338
     replace q338 := eq_true q338
     have p16 : 0 ≤ (x11_4 : Int) := of_decide_eq_true as_
     have q16 : (x11_4 : Int) < ((x9_2.length : Int) : Int) := of_decide_eq_true as_
     obtain ⟨go16, co16, eo16, gb16, gl16, cl16, HG16⟩ := Kd.b1z HO_9.out (by omega)
     (first | cases eo16 | (injection eo16 with ea_ en_ ec_; (first | subst ea_ | (injection ea_ with ea_; subst ea_)); subst ec_; clear en_))
     have GB16 := Aside0.mk gb16
     have GG16 := Aside0.mk HG16
     clear gb16 gl16 HG16
     (first | simp only [add_plain] at hx338_0 | skip)
     obtain ⟨hx16_0, hf16_0⟩ := Kd.R_celln false HO_9.out (x11_4 : Int) p16 q16
     replace p16 := eq_true p16
     replace q16 := eq_true q16
     have HP19 := Kd.R_putg HO_9.out (x11_4 : Int) false
     go_wp2_with (first | ((with_reducible refine bhz (t := 4) (p := 45) rfl ?_); refine cpz (t := 4) (p := 45) (v := ?vo_w20) (w1 := (wr.setCell ⟨go16, (x11_4 : Int).toNat, none⟩ (.bool false))) ?hg ?ho ?hn ?hr ?_; (case ho => rfl); (case hg => rfl); (case hn => rfl); (case hr => first | (go_simp; done) | (go_simp; rfl)); intro w20 hw; have hg : wr.grownBy w20 (some go16) := (by rw [hw]; exact HP19.2); have hp_ : Kd.R Kd.bool 4 w20 w.heap.size (fun _ => True) (.slice (some ⟨go16, 0, none⟩) x9_2.length co18) y339 := (by rw [hw, Ny339.out]; exact HP19.1); clear HP19; have n_ := And.intro (Aside0.mk (hp_)) (Aside0.mk ((by rw [hw]; exact b8z (HB.out) GB16.out : Below w.heap.size w w20))); clear HO_9 HB; obtain ⟨HO_9, HB⟩ := n_; clear hg hw hp_))
     go_roundg k4
     case measure => have := HK1.out; have := HK2.out; have := HJ8.out; have := HK4.out; omega
     case rel => exact ⟨(y339), (Int.tmod (wrap64 (x11_4 + a3)) a0), (wrap64 (x12_2 + 1)), sd_, sd_, H', ⟨by have := HK1.out; have := HK2.out; have := HJ8.out; have := HK4.out; omega⟩, ⟨xd_ HO_9.out⟩, ⟨bl_⟩⟩
theorem C_numsF {k : IntKind} {w : World} {g : Nat} {t : TypeId} {xs : List Int} {fr : Nat × Nat} (h : w.heap[g]? = some (.cells (nums k xs).toArray t fr)) (hl : xs.length ≤ 9223372036854775807) : Kd.C (Kd.int k) w (some ⟨g, 0, none⟩) xs.length xs := by
 refine ⟨rfl, hl, fun _ => ⟨_, rfl, fun j p hp => ⟨[.int k p], rfl, rfl, fun i u hu => ?_⟩⟩⟩
 obtain ⟨hj, rfl⟩ := List.getElem?_eq_some_iff.1 hp
 cases i with
 | succ i => simp at hu
 | zero =>
  obtain rfl : Value.int k xs[j] = u := by simpa using hu
  have e : (⟨g, 0, none⟩ : Addr).add (j * (Kd.int k).sz + 0) = ⟨g, j, none⟩ := by
   show (⟨g, 0, none⟩ : Addr).add (j * 1 + 0) = _
   unfold Addr.add
   split <;> simp_all
  rw [e, cell_of_row w g j _ t fr h]
  simp [nums, hj]
def bnz.f (a0_0 : Int) (a0_1 : Int) (a0_2 : Int) (l1 : List (List Int)) : Option (Bool) := (aiz.f a0_0 a0_1 a0_2).bind fun t279 => (if t279 = true then (some ((l1.length : Int) == (wrap64 (a0_1 + a0_2)))) else (some false))
set_option maxHeartbeats 8000000 in
set_option maxRecDepth 100000 in
theorem bnz.calls (a0_0 : Int) (a0_1 : Int) (a0_2 : Int) (A1 : Option Addr) (c1 : Nat) (l1 : List (List Int)) (r : Bool) (w : World) (hr1 : Kd.C (Kd.slice 5 (Kd.int .u8)) w A1 l1.length l1) (hc1 : l1.length ≤ c1) (h : bnz.f a0_0 a0_1 a0_2 l1 = some r) :
  Calls Tryz.prog 57 #[.agg #[.int .i64 a0_0, .int .i64 a0_1, .int .i64 a0_2], .slice A1 l1.length c1] w fun e w' => e = .returned (.bool r) ∧ Below w.heap.size w w' := by
 have hu23 := Tryz.underlying23
 have HR1 := Aside0.mk hr1
 have HC1 := Aside0.mk hc1
 clear hr1 hc1
 have HB := Aside0.mk (Below.refl w.heap.size w)
 have H := h
 clear h
 unfold bnz.f at H
 obtain ⟨t279, A3, H⟩ := ob_ H
 (try dsimp only at H)
 by_cases c4 : t279 = true
 ·subst c4
  rw [if_pos rfl] at H
  obtain rfl := Option.some.inj H
  go_enter Tryz.func57, Tryz.ntmps57
  go_wp2_with (first | ((with_reducible refine avz (N := 2) rfl ?_); (try (refine bkz (by rfl) ?_; dsimp only)); refine bx_ 2 #[.int .i64 a0_0, .int .i64 a0_1, .int .i64 a0_2] 23 ?_; intro gb278 hg w5 hbox hb; have n_ := And.intro (hs_ HB hb) (And.intro (Aside0.mk (hbox)) (And.intro (ag_ HB gb278) (ag_ HB gb278))); clear HB; obtain ⟨HB, BK278, GW278, GE278⟩ := n_; clear hb hbox hg; obtain ⟨hcz6_0, hfz6_0, hcz6_1, hfz6_1, hcz6_2, hfz6_2⟩ := bc3_ BK278.out) | ((with_reducible refine ajz (f := 41) rfl ?_); refine gl_ (some 6) Tryz.func41 #[.agg #[.int .i64 a0_0, .int .i64 a0_1, .int .i64 a0_2]] ?_; (with_reducible refine (aiz.calls a0_0 a0_1 a0_2 true _ A3.out).mono ?_); rintro e w7 ⟨rfl, hb⟩; refine ⟨_, rfl, ?_⟩; have n_ := And.intro (bb_ BK278 hb) (hs_ HB hb); clear BK278 HB; obtain ⟨BK278, HB⟩ := n_; (try clear hb); obtain ⟨hcz8_0, hfz8_0, hcz8_1, hfz8_1, hcz8_2, hfz8_2⟩ := bc3_ BK278.out))
  go_ret
  exact ⟨er_, bl_⟩
 ·replace c4 := Bool.eq_false_iff.mpr c4
  subst c4
  rw [if_neg (show ¬ (false = true) by decide)] at H
  obtain rfl := Option.some.inj H
  go_enter Tryz.func57, Tryz.ntmps57
  go_wp2_with (first | ((with_reducible refine avz (N := 2) rfl ?_); (try (refine bkz (by rfl) ?_; dsimp only)); refine bx_ 2 #[.int .i64 a0_0, .int .i64 a0_1, .int .i64 a0_2] 23 ?_; intro gb278 hg w9 hbox hb; have n_ := And.intro (hs_ HB hb) (And.intro (Aside0.mk (hbox)) (And.intro (ag_ HB gb278) (ag_ HB gb278))); clear HB; obtain ⟨HB, BK278, GW278, GE278⟩ := n_; clear hb hbox hg; obtain ⟨hcz10_0, hfz10_0, hcz10_1, hfz10_1, hcz10_2, hfz10_2⟩ := bc3_ BK278.out) | ((with_reducible refine ajz (f := 41) rfl ?_); refine gl_ (some 6) Tryz.func41 #[.agg #[.int .i64 a0_0, .int .i64 a0_1, .int .i64 a0_2]] ?_; (with_reducible refine (aiz.calls a0_0 a0_1 a0_2 false _ A3.out).mono ?_); rintro e w11 ⟨rfl, hb⟩; refine ⟨_, rfl, ?_⟩; have n_ := And.intro (bb_ BK278 hb) (hs_ HB hb); clear BK278 HB; obtain ⟨BK278, HB⟩ := n_; (try clear hb)))
  go_ret
  exact ⟨er_, bl_⟩
def cgz.f (a0_0 : Int) (a0_1 : Int) (a0_2 : Int) (l1 : List Int) : Option (Bool) := (arz.f a0_0).bind fun bt281 => (if bt281.2.1 = 16 then (some (((l1.length : Int) % 2) == 0)) else (some true))
set_option maxHeartbeats 8000000 in
set_option maxRecDepth 100000 in
theorem cgz.calls (a0_0 : Int) (a0_1 : Int) (a0_2 : Int) (A1 : Option Addr) (c1 : Nat) (l1 : List Int) (r : Bool) (w : World) (hr1 : Kd.C (Kd.int .u8) w A1 l1.length l1) (hc1 : l1.length ≤ c1) (h : cgz.f a0_0 a0_1 a0_2 l1 = some r) :
  Calls Tryz.prog 59 #[.agg #[.int .i64 a0_0, .int .i64 a0_1, .int .i64 a0_2], .slice A1 l1.length c1] w fun e w' => e = .returned (.bool r) ∧ Below w.heap.size w w' := by
 have hu23 := Tryz.underlying23
 have hu109 := Tryz.underlying109
 have HR1 := Aside0.mk hr1
 have HC1 := Aside0.mk hc1
 clear hr1 hc1
 have HB := Aside0.mk (Below.refl w.heap.size w)
 have H := h
 clear h
 unfold cgz.f at H
 obtain ⟨⟨t281, t282, t283, t284, t285, t286⟩, A3, H⟩ := ob_ H
 (try dsimp only at H)
 by_cases c4 : t282 = 16
 ·rw [if_pos c4] at H
  have c4b0 : (t282 == 16) = true := beq_iff_eq.mpr c4
  have c4b1 : (t282 != 16) = false := bne_eq_false_iff_eq.mpr c4
  clear c4
  obtain rfl := Option.some.inj H
  go_enter Tryz.func59, Tryz.ntmps59
  go_wp2_with (first | ((with_reducible refine avz (N := 2) rfl ?_); (try (refine bkz (by rfl) ?_; dsimp only)); refine bx_ 2 #[.int .i64 a0_0, .int .i64 a0_1, .int .i64 a0_2] 23 ?_; intro gb280 hg w5 hbox hb; have n_ := And.intro (hs_ HB hb) (And.intro (Aside0.mk (hbox)) (And.intro (ag_ HB gb280) (ag_ HB gb280))); clear HB; obtain ⟨HB, BK280, GW280, GE280⟩ := n_; clear hb hbox hg; obtain ⟨hcz6_0, hfz6_0, hcz6_1, hfz6_1, hcz6_2, hfz6_2⟩ := bc3_ BK280.out) | ((with_reducible refine ajz (f := 75) rfl ?_); refine gl_ (some 10) Tryz.func75 #[.int .i64 a0_0] ?_; (with_reducible refine (arz.calls a0_0 t281 t282 t283 t284 t285 t286 _ A3.out).mono ?_); rintro e w7 ⟨rfl, hb⟩; refine ⟨_, rfl, ?_⟩; have n_ := And.intro (bb_ BK280 hb) (hs_ HB hb); clear BK280 HB; obtain ⟨BK280, HB⟩ := n_; (try clear hb)) | ((with_reducible refine avz (N := 5) rfl ?_); (try (refine bkz (by rfl) ?_; dsimp only)); refine aXz ?hg (N := 5) ?hd (cs := #[.string (⟨#[]⟩ : ByteArray), .int .i64 0, .int .u32 0, .int .u8 0, .int .i64 0]) (t := 109) ?hr ?_; (case hd => rfl); (case hg => rfl); (case hr => first | (go_simp; done) | (go_simp; rfl)); intro gb287 hg w8 hbox hb; have n_ := And.intro (bb_ BK280 hb) (And.intro (hs_ HB hb) (And.intro (Aside0.mk (hbox)) (And.intro (ag_ HB gb287) (And.intro (ag_ HB gb287) (And.intro (n1_ BK280 gb287) (n2_ BK280 gb287)))))); clear BK280 HB; obtain ⟨BK280, HB, BK287, GW287, GE287, NB280_287, NB287_280⟩ := n_; clear hb hbox hg; have hnb9 := NB287_280.out; have hnc9 := NB280_287.out; obtain ⟨hcz10_0, hfz10_0, hcz10_1, hfz10_1, hcz10_2, hfz10_2, hcz10_3, hfz10_3, hcz10_4, hfz10_4⟩ := bc5_ BK287.out))
  go_ret
  exact ⟨er_, bl_⟩
 ·rw [if_neg c4] at H
  have c4b0 : (t282 == 16) = false := beq_eq_false_iff_ne.mpr c4
  have c4b1 : (t282 != 16) = true := bne_iff_ne.mpr c4
  obtain rfl := Option.some.inj H
  go_enter Tryz.func59, Tryz.ntmps59
  go_wp2_with (first | ((with_reducible refine avz (N := 2) rfl ?_); (try (refine bkz (by rfl) ?_; dsimp only)); refine bx_ 2 #[.int .i64 a0_0, .int .i64 a0_1, .int .i64 a0_2] 23 ?_; intro gb280 hg w11 hbox hb; have n_ := And.intro (hs_ HB hb) (And.intro (Aside0.mk (hbox)) (And.intro (ag_ HB gb280) (ag_ HB gb280))); clear HB; obtain ⟨HB, BK280, GW280, GE280⟩ := n_; clear hb hbox hg; obtain ⟨hcz12_0, hfz12_0, hcz12_1, hfz12_1, hcz12_2, hfz12_2⟩ := bc3_ BK280.out) | ((with_reducible refine ajz (f := 75) rfl ?_); refine gl_ (some 10) Tryz.func75 #[.int .i64 a0_0] ?_; (with_reducible refine (arz.calls a0_0 t281 t282 t283 t284 t285 t286 _ A3.out).mono ?_); rintro e w13 ⟨rfl, hb⟩; refine ⟨_, rfl, ?_⟩; have n_ := And.intro (bb_ BK280 hb) (hs_ HB hb); clear BK280 HB; obtain ⟨BK280, HB⟩ := n_; (try clear hb)) | ((with_reducible refine avz (N := 5) rfl ?_); (try (refine bkz (by rfl) ?_; dsimp only)); refine aXz ?hg (N := 5) ?hd (cs := #[.string (⟨#[]⟩ : ByteArray), .int .i64 0, .int .u32 0, .int .u8 0, .int .i64 0]) (t := 109) ?hr ?_; (case hd => rfl); (case hg => rfl); (case hr => first | (go_simp; done) | (go_simp; rfl)); intro gb287 hg w14 hbox hb; have n_ := And.intro (bb_ BK280 hb) (And.intro (hs_ HB hb) (And.intro (Aside0.mk (hbox)) (And.intro (ag_ HB gb287) (And.intro (ag_ HB gb287) (And.intro (n1_ BK280 gb287) (n2_ BK280 gb287)))))); clear BK280 HB; obtain ⟨BK280, HB, BK287, GW287, GE287, NB280_287, NB287_280⟩ := n_; clear hb hbox hg; have hnb15 := NB287_280.out; have hnc15 := NB280_287.out; obtain ⟨hcz16_0, hfz16_0, hcz16_1, hfz16_1, hcz16_2, hfz16_2, hcz16_3, hfz16_3, hcz16_4, hfz16_4⟩ := bc5_ BK287.out))
  go_ret
  exact ⟨er_, bl_⟩
end Go.Proofs.YtpdakdcmahlghaaGreat.XCo
end
section
namespace Go.Proofs.YtpdakdcmahlghaaGreat.XCo
open Go.RowKit Go.Proofs.YtpdakdcmahlghaaGreatW.PrintWords Go.Proofs.YtpdakdcmahlghaaGreatW.PrintLast Go.Proofs.YtpdakdcmahlghaaGreatW.PrintMore
attribute [local go_sem] axz ayz aDz aEz apz aqz azz aAz
set_option linter.unusedVariables false
set_option linter.unusedSimpArgs false
attribute [local go_sem] Oper.semAt_some
def thereF : Nat → List (List Int) → List Bool → List (Nat × List Int)
 | i, b :: l, h :: hv => if h = true then (i, b) :: thereF (i + 1) l hv else thereF (i + 1) l hv
 | _, _, _ => []
abbrev ThX := Nat × Option Addr × Nat × List Int
def thK (x : ThX) : Nat × List Int := (x.1, x.2.2.2)
def HdT (T : List (Nat × List Int)) (ok : Nat → Prop) (m : Nat) (x : ThX) (W : World) : Prop := T[m]? = some (thK x) ∧ x.2.2.2.length ≤ x.2.2.1 ∧ Kd.F (Kd.int .u8) W ok x.2.1 x.2.2.2.length x.2.2.2
set_option maxRecDepth 100000 in
theorem there.calls (A A2 : Option Addr) (n c n2 c2 : Nat) (W : World) : Calls Tryz.prog 58 #[.slice A n c, .slice A2 n2 c2] W fun e w' => e = .returned (.func (.func 93) #[] #[.pointer (some ⟨W.heap.size, 0, none⟩), .pointer (some ⟨W.heap.size + 1, 0, none⟩)]) ∧ w' = (W.alloc (.cells #[.slice A n c] 24)).alloc (.cells #[.slice A2 n2 c2] 38) := by
 have hmf : ∀ (fn : Fn) (first cap : Array Value) (w : World), (Instr.makeFunc fn first cap).run Tryz.prog w = .ok (.func fn first cap) w := fun _ _ _ _ => rfl
 go_enter Tryz.func58, Tryz.ntmps58
 go_wp2
 go_ret
 exact ⟨by simp, rfl⟩
set_option maxRecDepth 100000 in
set_option maxHeartbeats 4000000 in
theorem there1_in (l bs bh N n cs ch : Nat) (ex : Nat → Prop) (A A2 : Option Addr) (sh : List (List Int)) (hv : List Bool) (W0 W : World) (J : List ThX → World → Prop)
  (hF : Kd.F (dM 5 .u8) W0 (fun k => ¬ ex k) A sh.length sh) (hH : Kd.F Kd.bool W0 (fun k => ¬ ex k) A2 hv.length hv) (hN : W0.heap.size ≤ N) (h0 : KpX N ex W0 W) (hl : sh.length = n) (hl2 : hv.length = n) (hn : n ≤ 100000) (hn1 : 1 ≤ n)
  (hBs : W.heap[bs]? = some (.cells #[.slice A n cs] 24 (0, 0))) (hBh : W.heap[bh]? = some (.cells #[.slice A2 n ch] 38 (0, 0))) (hbs : bs < N ∧ ¬ ex bs) (hbh : bh < N ∧ ¬ ex bh) (hJ : ∀ s X Y, J s X → X.grownBy Y none → J s Y)
  (hY : ∀ pre x W1, J pre W1 → HdT (thereF 0 sh hv) (fun k => ¬ ex k ∧ k < W0.heap.size) pre.length x W1 → pre.length < (thereF 0 sh hv).length → YieldAt Fence.wide (7 - 1) Tryz.prog l #[.int .i64 (x.1 : Int), .slice x.2.1 x.2.2.2.length x.2.2.1] W1 fun e W' => e = .returned (.bool true) ∧ J (pre ++ [x]) W' ∧ KpX N ex W1 W') (hJ0 : J [] W) :
  CallsIn Fence.wide 7 Tryz.prog 93 #[.func (.yield l) #[] #[], .pointer (some ⟨bs, 0, none⟩), .pointer (some ⟨bh, 0, none⟩)] W fun e W' => (∃ v, e = .returned v) ∧ ∃ xs : List ThX, xs.map thK = thereF 0 sh hv ∧ J xs W' := by
 obtain ⟨T, hT⟩ : ∃ T, thereF 0 sh hv = T := ⟨_, rfl⟩
 have hT0 : thereF 0 (sh.drop 0) (hv.drop 0) = T := hT
 have HFq := Aside0.mk (fun (W' : World) (hk : KpX N ex W0 W') => (Kd.bsz (W1 := W') (Kd.cIz hF) (fun k hk1 hk2 => hk.2 k (by omega) hk1.1)))
 have HHq := Aside0.mk (fun (W' : World) (hk : KpX N ex W0 W') => (Kd.bsz (W1 := W') (Kd.cIz hH) (fun k hk1 hk2 => hk.2 k (by omega) hk1.1)))
 have HBs := Aside0.mk (fun (W' : World) (hk : KpX N ex W W') => (hk.2 bs hbs.1 hbs.2).trans hBs)
 have HBh := Aside0.mk (fun (W' : World) (hk : KpX N ex W W') => (hk.2 bh hbh.1 hbh.2).trans hBh)
 obtain ⟨r0, hr0⟩ : ∃ r, sh[0]? = some r := ⟨_, List.getElem?_eq_getElem (by omega)⟩
 obtain ⟨ad, A1, c1, rfl, -, -, -⟩ := a7z (Kd.F_now hF) 0 r0 hr0
 obtain ⟨ad2, rfl, -⟩ := Kd.at_bool (Kd.F_now hH) 0 (by omega) (by omega)
 rw [hT] at hY ⊢
 have HJ := Aside0.mk hJ
 have HY := Aside0.mk hY
 have HJ0 := Aside0.mk hJ0
 have H0 := Aside0.mk h0
 have HT0 := Aside0.mk hT0
 have HL := Aside0.mk hl
 have HL2 := Aside0.mk hl2
 have hbc : W.cell? ⟨bs, 0, none⟩ = some (.slice (some ad) n cs) := (aaz hBs 0).trans rfl
 rw [hl] at HFq
 rw [hl2] at HHq
 clear hF hH hN h0 hl hl2 hBs hBh hbs hbh hJ hY hJ0 hT hT0 hr0
 refine callsIn_of_wp Tryz.func93 rfl trivial ?_ rfl
 simp only [Tryz.ntmps93, List.size_toArray, List.length_cons, List.length_nil, Nat.reduceAdd, Nat.reduceSub, Array.replicate_succ, Array.replicate_zero, List.push_toArray, List.append_toArray, List.nil_append, List.cons_append]
 gi_wp2
 gi_loopw [8] (fun i wr => ∃ (k : Nat) (pre : List ThX), k ≤ n ∧ i = .int .i64 (k : Int) ∧ Aside0 (pre.map thK ++ thereF k (sh.drop k) (hv.drop k) = T) ∧ Aside0 (J pre wr) ∧ Aside0 (KpX N ex W wr)) (fun i _ => n - (intOf i).toNat)
 case atStart => exact ⟨0, [], Nat.zero_le _, rfl, HT0, HJ0, ⟨Nat.le_refl _, fun _ _ _ => rfl⟩⟩
 clear HJ0 hbc HT0
 obtain ⟨wq, rfl⟩ : ∃ wq, wq = wr := ⟨_, rfl⟩
 obtain ⟨k, pre, hk, rfl, HP, HJP, HK⟩ := hrel
 by_cases hlt : k < n
 ·obtain ⟨b, hb⟩ : ∃ x, sh[k]? = some x := ⟨_, List.getElem?_eq_getElem (by have := HL.out; omega)⟩
  obtain ⟨h, hh⟩ : ∃ x, hv[k]? = some x := ⟨_, List.getElem?_eq_getElem (by have := HL2.out; omega)⟩
  have hds : sh.drop k = b :: sh.drop (k + 1) := by
   obtain ⟨h1, h2⟩ := List.getElem?_eq_some_iff.1 hb
   rw [List.drop_eq_getElem_cons h1, h2]
  have hdh : hv.drop k = h :: hv.drop (k + 1) := by
   obtain ⟨h1, h2⟩ := List.getElem?_eq_some_iff.1 hh
   rw [List.drop_eq_getElem_cons h1, h2]
  have hp := HP.out
  rw [hds, hdh, thereF] at hp
  have hFs := HFq.out wq (H0.out.trans HK.out)
  rw [← HL.out] at hFs
  obtain ⟨A', c', e1, l1, FR⟩ := row_atF hFs k b hb
  obtain ⟨ad', he, e2⟩ := Kd.at_bool (Kd.F_now (HHq.out wq (H0.out.trans HK.out))) (k : Int) (by omega) (by omega)
  obtain rfl : ad2 = ad' := Option.some.inj he
  have hrd : rdOf false hv (k : Int) = h := by
   unfold rdOf
   rw [Int.toNat_natCast, List.getD_eq_getElem?_getD, hh]
   rfl
  rw [hrd, Int.toNat_natCast] at e2
  have q2 : wq.cell? ⟨bh, 0, none⟩ = some (.slice (some ad2) n ch) := (aaz (HBh.out _ HK.out) 0).trans rfl
  have HFR := Aside0.mk FR
  have HL1 := Aside0.mk l1
  have HPP := Aside0.mk hp
  have i1 : (0 : Int) ≤ (k : Int) := by omega
  have i2 : (k : Int) < (n : Int) := by omega
  obtain ⟨nb, hnb⟩ : ∃ nb, b.length = nb := ⟨_, rfl⟩
  have HNB := Aside0.mk hnb
  rw [hnb] at e1
  clear hb hh hds hdh hp hFs he hrd FR l1 hnb HP
  cases h with
  | false =>
   have hp2 := HPP.out
   rw [if_neg (by decide)] at hp2
   have HP2 := Aside0.mk hp2
   clear hp2 HPP
   gi_wp2
   refine ⟨(by intro f hf; cases hf), ?_⟩
   gi_wp2
   go_roundw
   case rel => exact ⟨k + 1, pre, by omega, by go_num, HP2, HJP, HK⟩
   case measure => simp [intOf]; omega
  | true =>
   have hp2 := HPP.out
   rw [if_pos rfl] at hp2
   have hTm : T[pre.length]? = some (k, b) := by
    rw [← hp2, List.getElem?_append_right (by simp)]
    simp
   have hTl : pre.length < T.length := (List.getElem?_eq_some_iff.1 hTm).1
   obtain ⟨fn, tmps, assign, body, hy, hR⟩ := HY.out pre (k, A', c', b) wq HJP.out ⟨hTm, HL1.out, HFR.out⟩ hTl
   dsimp only at hy
   rw [HNB.out] at hy
   have HRR := Aside0.mk hR
   have HP2 := Aside0.mk (show (pre ++ [((k, A', c', b) : ThX)]).map thK ++ thereF (k + 1) (sh.drop (k + 1)) (hv.drop (k + 1)) = T by
    rw [← hp2, List.map_append, List.append_assoc]
    rfl)
   clear hp2 hTm hTl hR HPP HFR
   gi_wp2
   refine HRR.out.mono ?_
   rintro e w3 ⟨rfl, hJ3, hk3⟩
   have HJ3 := Aside0.mk hJ3
   have HK3 := Aside0.mk hk3
   clear hy hJ3 hk3
   gi_wp2
   go_roundw
   case rel => exact ⟨k + 1, pre ++ [(k, A', c', b)], by omega, by go_num, HP2, HJ3, ⟨HK.out.trans HK3.out⟩⟩
   case measure => simp [intOf]; omega
 ·obtain rfl : k = n := by omega
  have hp := HP.out
  rw [List.drop_of_length_le (by have := HL.out; omega), thereF.eq_def] at hp
  have HPE := Aside0.mk (show pre.map thK = T by simpa using hp)
  clear hp
  gi_wp2
  go_end0
  exact ⟨⟨_, rfl⟩, pre, HPE.out, HJP.out⟩
theorem there_seq (bs bh N n cs ch : Nat) (ex : Nat → Prop) (A A2 : Option Addr) (sh : List (List Int)) (hv : List Bool) (W0 w : World)
  (hF : Kd.F (dM 5 .u8) W0 (fun k => ¬ ex k) A sh.length sh) (hH : Kd.F Kd.bool W0 (fun k => ¬ ex k) A2 hv.length hv) (hN : W0.heap.size ≤ N) (hNW : N ≤ w.heap.size) (h0 : KpX N ex W0 w) (hl : sh.length = n) (hl2 : hv.length = n) (hn : n ≤ 100000) (hn1 : 1 ≤ n)
  (hBs : w.heap[bs]? = some (.cells #[.slice A n cs] 24 (0, 0))) (hBh : w.heap[bh]? = some (.cells #[.slice A2 n ch] 38 (0, 0))) (hbs : bs < N ∧ ¬ ex bs) (hbh : bh < N ∧ ¬ ex bh) :
  SeqN Fence.wide 7 Tryz.prog 93 #[.pointer (some ⟨bs, 0, none⟩), .pointer (some ⟨bh, 0, none⟩)] (fun x : ThX => #[.int .i64 (x.1 : Int), .slice x.2.1 x.2.2.2.length x.2.2.1]) (HdT (thereF 0 sh hv) (fun k => ¬ ex k ∧ k < W0.heap.size)) (KpX N ex) (fun xs => xs.map thK = thereF 0 sh hv) (thereF 0 sh hv).length w := by
 intro l J W hW hJ hY hJ0
 have hk : KpX N ex w W := ⟨hW.size, fun k hk _ => hW.block k (by omega)⟩
 exact there1_in l bs bh N n cs ch ex A A2 sh hv W0 W J hF hH hN (h0.trans hk) hl hl2 hn hn1 ((hk.2 bs hbs.1 hbs.2).trans hBs) ((hk.2 bh hbh.1 hbh.2).trans hBh) hbs hbh hJ hY hJ0
end Go.Proofs.YtpdakdcmahlghaaGreat.XCo
end
section
namespace Go.Proofs.YtpdakdcmahlghaaGreat.XCo
open Go.RowKit Go.Proofs.YtpdakdcmahlghaaGreatW.PrintWords Go.Proofs.YtpdakdcmahlghaaGreatW.PrintLast Go.Proofs.YtpdakdcmahlghaaGreatW.PrintMore
attribute [local go_sem] axz ayz aDz aEz apz aqz azz aAz
set_option linter.unusedVariables false
set_option linter.unusedSimpArgs false
def slE (x : ThX) : Value := .slice x.2.1 x.2.2.2.length x.2.2.1
def slK : Kd ThX := Kd.scalar slE (fun _ => rfl)
def ThOk (W : World) (ok : Nat → Prop) (x : ThX) : Prop := x.2.2.2.length ≤ x.2.2.1 ∧ Kd.F (Kd.int .u8) W ok x.2.1 x.2.2.2.length x.2.2.2
theorem ThOk.move {W W1 : World} {ok : Nat → Prop} {x : ThX} (h : ThOk W ok x) (hm : ∀ k, ok k → k < W.heap.size → W1.heap[k]? = W.heap[k]?) : ThOk W1 ok x := ⟨h.1, Kd.bsz h.2 hm⟩
theorem first_F {e base n c : Nat} {W : World} {ok okB : Nat → Prop} {A : Option Addr} {its : List ThX} (h : slK.R e W base ok (.slice A n c) its) (hr : ∀ x, x ∈ its → ThOk W okB x) :
  Kd.F (dM 5 .u8) W (fun k => okB k ∨ some k = (Value.slice A n c).ownBlock) A its.length (its.map fun x => x.2.2.2) := by
 intro W' hW
 have h1 : slK.R e W' base (fun k => some k = (Value.slice A n c).ownBlock) (.slice A n c) its := Kd.bdz (Kd.bVz rfl (Kd.aRz h (fun _ _ => trivial))) (fun k hk => hW k (.inr hk) (Kd.R_lt h k hk.symm))
 obtain ⟨h2, h3, h4⟩ := (Kd.aLz h1).2.2
 refine ⟨by simp, h3, fun hp => ?_⟩
 obtain ⟨ad, hA, hc⟩ := h4 hp
 refine ⟨ad, hA, fun j p hj => ?_⟩
 rw [List.getElem?_map] at hj
 obtain ⟨x, hx, rfl⟩ := Option.map_eq_some_iff.1 hj
 obtain ⟨cs, hl, hk, hcell⟩ := hc j x hx
 obtain rfl : cs = [slE x] := hk
 have hx2 := hr x (List.mem_of_getElem? hx)
 exact ⟨_, rfl, ⟨x.2.1, x.2.2.1, rfl, hx2.1, hx2.2 W' (fun k hk hlt => hW k (.inl hk) hlt)⟩, hcell⟩
theorem rr_one {α : Type} (enc : α → Value) {W : World} {g e : Nat} {x : α} {fr : Nat × Nat} (h : W.heap[g]? = some (.cells #[enc x] e fr)) : ReadsRow (fun (y : α) cs => cs = [enc y]) 1 W (some ⟨g, 0, none⟩) 1 [x] := by
 refine ⟨rfl, by decide, fun _ => ⟨_, rfl, fun j p hp => ⟨[enc p], rfl, rfl, fun i u hu => ?_⟩⟩⟩
 cases j with
 | succ j => simp at hp
 | zero =>
  obtain rfl : x = p := by simpa using hp
  cases i with
  | succ i => simp at hu
  | zero =>
   obtain rfl : enc x = u := by simpa using hu
   rw [show (⟨g, 0, none⟩ : Addr).add (0 * 1 + 0) = ⟨g, 0, none⟩ from bBz _]
   exact (cell_of_row W g 0 _ e fr h).trans rfl
theorem cpast {W : World} {b i : Nat} {v : Value} (o : Obj) (h : W.cell? ⟨b, i, none⟩ = some v) : (W.alloc o).cell? ⟨b, i, none⟩ = some v := (World.cell?_alloc_past _ _ _ (World.block_lt_of_cell? _ _ h)).trans h
theorem cgrow {W W1 : World} {a : Addr} {v : Value} {r : Option Nat} (h : W.cell? a = some v) (g : W.grownBy W1 r) (hne : some a.block ≠ r) : W1.cell? a = some v := (World.cell?_of_block (g.block _ (World.block_lt_of_cell? _ _ h) hne)).trans h
theorem gtr {A B C : World} {r : Option Nat} (h : A.grownBy B r) (k : B.grownBy C r) : A.grownBy C r :=
 ⟨k.os.trans h.os, k.tape.trans h.tape, k.output.trans h.output, Nat.le_trans h.size k.size, fun i hi hr => (k.block i (Nat.lt_of_lt_of_le hi h.size) hr).trans (h.block i hi hr)⟩
theorem gall {A B : World} {r : Option Nat} (h : A.grownBy B r) (o : Obj) : A.grownBy (B.alloc o) r :=
 gtr h (by
  have hb := abz (Below.refl B.heap.size B) o
  exact ⟨hb.os, hb.tape, hb.output, hb.size, fun i hi _ => hb.block i hi⟩)
theorem slK_noncells {X Y : World} {row : Option Nat} {base : Nat} {ok : Nat → Prop} {v : Value} {xs : List ThX} {e : Nat} (h : slK.R e X base ok v xs) (hg : X.grownBy Y row) (hr : ∀ r, row = some r → ∃ o : Obj, X.heap[r]? = some o ∧ o.isCells = false) : slK.R e Y base ok v xs := by
 refine Kd.aRz (Kd.bdz (Kd.bVz rfl (Kd.aRz h (fun _ _ => trivial))) (fun k hk => ?_)) (fun k hk => h.1 k hk.symm)
 obtain ⟨cells, hc⟩ := Kd.bZz h k hk.symm
 exact grownBy_keeps_cells hg hr hc rfl
theorem even_ev (p : Int) (h1 : 1 ≤ p) (h2 : p ≤ 6) (n m : Int) (b : List Int) : cgz.f p n m b = some (evB (pbits p) b) := by
 have hp : p = 1 ∨ p = 2 ∨ p = 3 ∨ p = 4 ∨ p = 5 ∨ p = 6 := by omega
 have e1 : ∀ q : Int, pbits q = 8 → evB (pbits q) b = true := fun q hq => by
  unfold evB
  rw [hq]
  show (b.length % 1 == 0) = true
  rw [Nat.mod_one]
  rfl
 rcases hp with rfl | rfl | rfl | rfl | rfl | rfl
 ·rw [e1 1 rfl]; rfl
 ·show some (((b.length : Int) % 2) == 0) = some (b.length % 2 == 0)
  congr 1
  have : ((b.length : Int) % 2) = ((b.length % 2 : Nat) : Int) := by omega
  rw [this]
  rcases Nat.mod_two_eq_zero_or_one b.length with h | h <;> rw [h] <;> rfl
 ·rw [e1 3 rfl]; rfl
 ·rw [e1 4 rfl]; rfl
 ·rw [e1 5 rfl]; rfl
 ·rw [e1 6 rfl]; rfl
def goodL (wb : Int) (L : Nat) (T : List (Nat × List Int)) : Bool := T.all fun y => evB wb y.2 && y.2.length == L
theorem goodL_snoc (wb : Int) (L : Nat) (T : List (Nat × List Int)) (y : Nat × List Int) : goodL wb L (T ++ [y]) = (goodL wb L T && (evB wb y.2 && y.2.length == L)) := by simp [goodL]
def len0 (T : List (Nat × List Int)) : Nat := (T.getD 0 (0, [])).2.length
structure RX (N b8 b9 b10 : Nat) (A B : World) : Prop where
 os : B.os = A.os
 tape : B.tape = A.tape
 output : B.output = A.output
 size : A.heap.size ≤ B.heap.size
 block : ∀ k, k < N → k ≠ b8 → k ≠ b9 → k ≠ b10 → B.heap[k]? = A.heap[k]?
 walks : ∀ (k : Nat) (o : Obj), A.heap[k]? = some o → o.isCells = false → B.heap[k]? = some o
theorem RX.trans {N b8 b9 b10 : Nat} {A B C : World} (h : RX N b8 b9 b10 A B) (k : RX N b8 b9 b10 B C) : RX N b8 b9 b10 A C :=
 ⟨k.os.trans h.os, k.tape.trans h.tape, k.output.trans h.output, Nat.le_trans h.size k.size, fun i h1 h2 h3 h4 => (k.block i h1 h2 h3 h4).trans (h.block i h1 h2 h3 h4), fun i o ho hn => k.walks i o (h.walks i o ho hn) hn⟩
theorem RX.refl (N b8 b9 b10 : Nat) (A : World) : RX N b8 b9 b10 A A := ⟨rfl, rfl, rfl, Nat.le_refl _, fun _ _ _ _ _ => rfl, fun _ _ h _ => h⟩
theorem RX.of_below {N b8 b9 b10 : Nat} {A B : World} (h : Below A.heap.size A B) (hN : N ≤ A.heap.size) : RX N b8 b9 b10 A B := ⟨h.os, h.tape, h.output, h.size, fun k hk _ _ _ => h.block k (by omega), fun k o ho _ => (h.block k (amz ho)).trans ho⟩
theorem RX.dgz {N b8 b9 b10 : Nat} {A B : World} {r : Option Nat} (h : A.grownBy B r) (hN : N ≤ A.heap.size) (hr : ∀ q, r = some q → N ≤ q ∧ ∃ cells e fr, A.heap[q]? = some (.cells cells e fr)) : RX N b8 b9 b10 A B :=
 ⟨h.os, h.tape, h.output, h.size, fun k hk _ _ _ => h.block k (by omega) (fun e => by have := (hr k e.symm).1; omega), fun k o ho hn => (h.block k (amz ho) (fun e => by
  obtain ⟨-, cells, ee, fr, hc⟩ := hr k e.symm
  rw [hc] at ho; cases ho; cases hn)).trans ho⟩
theorem RX.of_set {N b8 b9 b10 : Nat} {A : World} {b : Nat} {v v0 : Value} {e : TypeId} (hb : A.heap[b]? = some (.cells #[v0] e (0, 0))) (hx : b = b8 ∨ b = b9 ∨ b = b10) : RX N b8 b9 b10 A (A.setCell ⟨b, 0, none⟩ v) := by
 have hs : ∀ k, k ≠ b → (A.setCell ⟨b, 0, none⟩ v).heap[k]? = A.heap[k]? := fun k hk => Below.heap_setCell A ⟨b, 0, none⟩ v k hk
 refine ⟨rfl, rfl, rfl, by simp, fun k _ h1 h2 h3 => hs k (by omega), fun k o ho hn => (hs k ?_).trans ho⟩
 rintro rfl
 rw [hb] at ho; cases ho; cases hn
theorem RX.blk {N b8 b9 b10 : Nat} {A B : World} (h : RX N b8 b9 b10 A B) {k : Nat} {o : Obj} (hk : A.heap[k]? = some o) (h1 : k < N) (h2 : k ≠ b8) (h3 : k ≠ b9) (h4 : k ≠ b10) : B.heap[k]? = some o := (h.block k h1 h2 h3 h4).trans hk
theorem slK_grow {X Y : World} {r : Option Nat} {base e : Nat} {v : Value} {xs : List ThX} (h : slK.R e X base (fun _ => True) v xs) (hg : X.grownBy Y r) (hne : ∀ k, v.ownBlock = some k → some k ≠ r) : slK.R e Y base (fun _ => True) v xs :=
 Kd.aRz (Kd.bdz (Kd.bVz rfl h) (fun k hk => hg.block k (Kd.R_lt h k hk.symm) (hne k hk.symm))) (fun _ _ => trivial)
theorem int_grow {X Y : World} {r : Option Nat} {base e : Nat} {v : Value} {xs : List Int} (h : (Kd.int .i64).R e X base (fun _ => True) v xs) (hg : X.grownBy Y r) (hne : ∀ k, v.ownBlock = some k → some k ≠ r) : (Kd.int .i64).R e Y base (fun _ => True) v xs :=
 Kd.aRz (Kd.bdz (Kd.bVz rfl h) (fun k hk => hg.block k (Kd.R_lt h k hk.symm) (hne k hk.symm))) (fun _ _ => trivial)
theorem own_ne {X : World} {u v : Value} {e1 e2 : TypeId} (h1 : ∀ k, u.ownBlock = some k → ∃ cells, X.heap[k]? = some (.cells cells e1 (0, 0))) (h2 : ∀ k, v.ownBlock = some k → ∃ cells, X.heap[k]? = some (.cells cells e2 (0, 0))) (hne : e1 ≠ e2) : ∀ k, u.ownBlock = some k → some k ≠ v.ownBlock := by
 intro k hk he
 obtain ⟨c1, e1'⟩ := h1 k hk
 obtain ⟨c2, e2'⟩ := h2 k he.symm
 rw [e1'] at e2'
 injection e2' with e3
 injection e3 with _ e4
 exact hne e4
theorem thereF_le : ∀ (i : Nat) (l : List (List Int)) (hv : List Bool), (thereF i l hv).length ≤ l.length
 | _, [], _ => by simp [thereF]
 | _, _ :: _, [] => by simp [thereF]
 | i, b :: l, h :: hv => by
  have ih := thereF_le (i + 1) l hv
  unfold thereF
  cases h with
  | true => simpa using ih
  | false => rw [if_neg (by decide)]; simp only [List.length_cons]; omega
theorem slK_cell0 {W : World} {A : Option Addr} {n c e base : Nat} {ok : Nat → Prop} {its : List ThX} {x : ThX} (h : slK.R e W base ok (.slice A n c) its) (hx : its[0]? = some x) : ∃ ad, A = some ad ∧ W.cell? ad = some (slE x) := by
 obtain ⟨h2, h3, h4⟩ := (Kd.aLz h).2.2
 obtain ⟨ad, hA, hc⟩ := h4 (by have := (List.getElem?_eq_some_iff.1 hx).1; omega)
 obtain ⟨cs, hl, hk, hcell⟩ := hc 0 x hx
 obtain rfl : cs = [slE x] := hk
 have h5 := hcell 0 (slE x) rfl
 rw [show ad.add (0 * slK.sz + 0) = ad from by rw [Nat.zero_mul]; exact bBz ad] at h5
 exact ⟨ad, hA, h5⟩
theorem gdr {A B : World} {r : Option Nat} (h : A.grownBy B r) : A.grownBy B.drew r := ⟨h.os, h.tape, h.output, h.size, h.block⟩
theorem thereF_lt : ∀ (i : Nat) (l : List (List Int)) (hv : List Bool) (x : Nat × List Int), x ∈ thereF i l hv → x.1 < i + l.length
 | _, [], _, x, h => by simp [thereF] at h
 | _, _ :: _, [], x, h => by simp [thereF] at h
 | i, b :: l, h :: hv, x, hx => by
  unfold thereF at hx
  have ih := thereF_lt (i + 1) l hv x
  cases h with
  | true =>
   rw [if_pos rfl] at hx
   rcases List.mem_cons.1 hx with rfl | hx
   ·simp
   ·have := ih hx; simp only [List.length_cons]; omega
  | false =>
   rw [if_neg (by decide)] at hx
   have := ih hx; simp only [List.length_cons]; omega
end Go.Proofs.YtpdakdcmahlghaaGreat.XCo
end
section
namespace Go.Proofs.YtpdakdcmahlghaaGreat.XCo
open Go.RowKit Go.Proofs.YtpdakdcmahlghaaGreatW.PrintWords Go.Proofs.YtpdakdcmahlghaaGreatW.PrintLast Go.Proofs.YtpdakdcmahlghaaGreatW.PrintMore
attribute [local go_sem] axz ayz aDz aEz apz aqz azz aAz
set_option linter.unusedVariables false
set_option linter.unusedSimpArgs false
section
variable {P : Program} {ops : Array Oper} {rest : List Oper} {o : Oper} {a : Act} {Q : Exit → Act → World → Prop} {α : Type}
theorem S_append_rows (d : Kd α) {w0 W : World} (base base2 : Nat) (hgd : o.guard = none) (s x : Operand) (t e : TypeId) (z : Value) (bytes : Nat)
  (ho : o.op = .call { callee := .builtin .append, args := #[s, x], argTypes := #[t, t] })
  (ht : P.underlying t = some (.slice e)) (hinfo : (P.info? e).map (fun i => (i.zero, i.size, i.bytes)) = some (some z, d.sz, bytes)) (hz : z.cells.size = d.sz) (hs0 : 0 < d.sz) (hb0 : 0 < bytes)
  (v : Value) (xs ys : List α) (g m c : Nat) (ok1 ok2 : Nat → Prop) (hs : a.eval s = v) (hx : a.eval x = .slice (some ⟨g, 0, none⟩) m c)
  (HO : Kd.S d e W base ok1 v xs) (HY : Kd.S d e W base2 ok2 (.slice (some ⟨g, 0, none⟩) m c) ys) (hap : ∀ k, ok1 k → ¬ ok2 k) (hle : base ≤ base2)
  (HB : Below base w0 W) (hbase : base ≤ W.heap.size) (hl : (xs.length + m) * bytes ≤ 140737488355328)
  (h : ∀ v1 w1, Kd.S d e w1 base (fun _ => True) v1 (xs ++ ys) → Below base w0 w1 → W.grownBy w1 v.ownBlock → (v1.ownBlock = v.ownBlock ∨ ∃ b, v1.ownBlock = some b ∧ W.heap.size ≤ b) → wpList P ops Q rest (a.put o.dst v1) w1) :
  wpList P ops Q (o :: rest) a W := by
 obtain ⟨f, hf⟩ := HO
 obtain ⟨f2, hf2⟩ := HY
 obtain ⟨F, hF⟩ : ∃ F : Nat → Nat, F = fun k => open Classical in if ok1 k then f k else xs.length + f2 k := ⟨_, rfl⟩
 have hF1 : ∀ k, ok1 k → F k = f k := fun k hk => by rw [hF]; exact if_pos hk
 have hF2 : ∀ k, ok2 k → F k = xs.length + f2 k := fun k hk => by rw [hF]; exact if_neg (fun h1 => hap k h1 hk)
 have hR1 : (Kd.tag F d).R e W base (fun _ => True) v xs.zipIdx := by
  obtain ⟨h0, inner, hw, hr⟩ := hf
  exact ⟨fun _ _ => trivial, inner, hw, hr.1, fun j p hj => d.M_mono (fun k hk => ⟨⟨trivial, hk.1.2⟩, (hF1 k hk.1.1).trans hk.2⟩) (hr.2 j p hj)⟩
 have hn := (Kd.aLz hf2).1
 rw [List.length_zipIdx] at hn
 have hm2 := (Kd.aLz hf2).2.2.2.1
 rw [List.length_zipIdx] at hm2
 have hRd : ReadsRow (fun p cs => (Kd.tag F d).M W base (fun k => ok2 k ∧ some k ≠ v.ownBlock) p cs) d.sz W (some ⟨g, 0, none⟩) m (ys.zipIdx xs.length) := by
  refine ⟨by rw [List.length_zipIdx]; exact hn.symm, by rw [hn]; exact hm2, fun hp => ⟨_, rfl, fun j p hj => ?_⟩⟩
  rw [List.getElem?_zipIdx] at hj
  obtain ⟨y, hy, rfl⟩ := Option.map_eq_some_iff.1 hj
  have hjl := (List.getElem?_eq_some_iff.1 hy).1
  obtain ⟨cs, hcl, hM, hcc⟩ := Kd.R_getA hf2 (y, 0) (j : Int) (by omega) (by omega)
  rw [Int.toNat_natCast, List.getD_eq_getElem?_getD, Kd.cbz hy] at hM
  rw [Int.toNat_natCast] at hcc
  have hM' : d.M W base2 (fun k => (ok2 k ∧ some k ≠ (Value.slice (some ⟨g, 0, none⟩) m c).ownBlock) ∧ f2 k = j) y cs := hM
  refine ⟨cs, hcl, ?_, fun i u hu => hcc i u hu⟩
  show d.M W base (fun k => (ok2 k ∧ some k ≠ v.ownBlock) ∧ F k = xs.length + j) y cs
  refine d.M_mono (fun k hk => ⟨⟨hk.1.1, fun e => ?_⟩, by rw [hF2 k hk.1.1, hk.2]⟩) (d.M_lower hle hM')
  exact hap k (hf.1 k e.symm) hk.1.1
 refine Kd.dtz (Kd.tag F d) base hgd s x t e z bytes ho ht hinfo hz hs0 hb0 v xs.zipIdx (ys.zipIdx xs.length) (some ⟨g, 0, none⟩) m c (fun _ => True) (fun k => ok2 k ∧ some k ≠ v.ownBlock) hs hx hR1 hRd (fun _ _ hh => hh) (fun k hk => ⟨trivial, hk.2⟩) (fun _ _ => trivial) HB hbase (by rw [List.length_zipIdx]; exact hl) ?_
 intro v1 w1 hr
 rw [← Nat.zero_add xs.length, ← List.zipIdx_append] at hr
 exact h v1 w1 ⟨F, hr⟩
end
theorem S_putrow {W w5 : World} {base o n cap nb uc : Nat} {ua : Option Addr} {rows : List (List Int)} {b : List Int} (h : Kd.S (dM 5 .u8) 34 W base (fun _ => True) (.slice (some ⟨o, 0, none⟩) n cap) rows) (hbase : base ≤ W.heap.size) (hb : Below W.heap.size W w5) (hu : (Kd.int .u8).R 5 w5 W.heap.size (fun _ => True) (.slice ua nb uc) b) (i : Nat) (hi : i < n) :
  (∃ v0, w5.cell? ⟨o, i, none⟩ = some v0) ∧ w5.frozen? ⟨o, i, none⟩ = false ∧ Kd.S (dM 5 .u8) 34 (w5.setCell ⟨o, i, none⟩ (.slice ua nb uc)) base (fun _ => True) (.slice (some ⟨o, 0, none⟩) n cap) (rows.set i b) := by
 have hlo : o < W.heap.size := Kd.S_lt h o (by simp [Value.ownBlock])
 have h1 : Kd.S (dM 5 .u8) 34 w5 base (fun q => True ∧ ¬ W.heap.size ≤ q) (.slice (some ⟨o, 0, none⟩) n cap) rows := Kd.bWz (Kd.biz (Kd.aZz h) (fun q hq => ⟨trivial, by have := hq.2.2.1; omega⟩)) hb
 obtain ⟨v0, hcv, hfv⟩ := S_cell h1 i hi
 refine ⟨⟨v0, hcv⟩, hfv, ?_⟩
 obtain ⟨oki, cc, hcl, hM, hcc, hfr, hoki, hH⟩ := Kd.S_elem h1 ([] : List Int) (i : Int) (by omega) (by omega)
 obtain ⟨u0, rfl, hu0⟩ := hM
 have hR := Kd.bez (Kd.aRz (Kd.a2z hu) (ok' := fun q => W.heap.size ≤ q) (fun q hq => hq.2.1)) hbase
 obtain rfl : nb = b.length := (Kd.aLz hu).1
 have hS9 := (Kd.S_seg (ok := fun _ => True) (okg := fun q => W.heap.size ≤ q) hH (by omega) (by omega) (seg := [.slice ua b.length uc]) (j := 0) (Nat.le_refl _) (x' := b) (okp := fun q => W.heap.size ≤ q) ⟨_, rfl, hR⟩ (fun q hq => .inr hq) (fun q hq => ⟨trivial, by omega⟩)).1
 rw [Int.toNat_natCast, show (dM 5 .u8).sz = 1 from rfl, Nat.mul_one, Nat.add_zero] at hS9
 exact hS9
theorem thereF_mem : ∀ (i : Nat) (l : List (List Int)) (hv : List Bool) (x : Nat × List Int), x ∈ thereF i l hv → x.2 ∈ l
 | _, [], _, x, h => by simp [thereF] at h
 | _, _ :: _, [], x, h => by simp [thereF] at h
 | i, b :: l, h :: hv, x, hx => by
  unfold thereF at hx
  have ih := thereF_mem (i + 1) l hv x
  cases h with
  | true =>
   rw [if_pos rfl] at hx
   rcases List.mem_cons.1 hx with rfl | hx
   ·exact List.mem_cons_self ..
   ·exact List.mem_cons_of_mem _ (ih hx)
  | false =>
   rw [if_neg (by decide)] at hx
   exact List.mem_cons_of_mem _ (ih hx)
end Go.Proofs.YtpdakdcmahlghaaGreat.XCo
end
section
namespace Go.Proofs.YtpdakdcmahlghaaGreat.XCo
open Go.RowKit Go.Proofs.YtpdakdcmahlghaaGreatW.PrintWords Go.Proofs.YtpdakdcmahlghaaGreatW.PrintLast Go.Proofs.YtpdakdcmahlghaaGreatW.PrintMore
attribute [local go_sem] axz ayz aDz aEz apz aqz azz aAz
set_option linter.unusedVariables false
set_option linter.unusedSimpArgs false
set_option maxRecDepth 100000 in
set_option maxHeartbeats 4000000 in
theorem copied.calls (A : Option Addr) (cap : Nat) (rows : List (List Int)) (W : World) (hC : Kd.C (dM 3 .i64) W A rows.length rows) (hn : rows.length ≤ 1000) (hl : ∀ r, r ∈ rows → r.length ≤ 100000) :
  Calls Tryz.prog 140 #[.slice A rows.length cap] W fun e w' => ∃ v, e = .returned v ∧ Kd.S (dM 3 .i64) 57 w' W.heap.size (fun _ => True) v rows ∧ Below W.heap.size W w' := by
 have HC := Aside0.mk hC
 have HL := Aside0.mk hl
 obtain ⟨n, hnn⟩ : ∃ n, rows.length = n := ⟨_, rfl⟩
 have HN := Aside0.mk hnn
 rw [hnn] at hn ⊢
 clear hC hl hnn
 go_enter Tryz.func140, Tryz.ntmps140
 go_wp2
 go_loopw [3, 8] (fun v i wr => ∃ k : Nat, k ≤ n ∧ i = .int .i64 (k : Int) ∧ Aside0 (Kd.S (dM 3 .i64) 57 wr W.heap.size (fun _ => True) v (rows.take k)) ∧ Aside0 (Below W.heap.size W wr)) (fun _ i _ => n - (intOf i).toNat)
 case atStart => exact ⟨0, Nat.zero_le _, rfl, ⟨Kd.S_nil _ _ _ _ _⟩, ⟨Below.refl _ _⟩⟩
 obtain ⟨k, hk, rfl, HO, HB⟩ := hrel
 by_cases hlt : k < n
 ·obtain ⟨x, hx⟩ : ∃ x, rows[k]? = some x := ⟨_, List.getElem?_eq_getElem (by have := HN.out; omega)⟩
  have hxl := HL.out x (List.mem_of_getElem? hx)
  obtain ⟨a1, A1, c1, rfl, e1, l1, C1⟩ := a7z (Kd.aGz HC.out HB.out) k x hx
  have HZ := Aside0.mk (show rows.take (k + 1) = rows.take k ++ [x] by rw [List.take_add_one, hx]; rfl)
  have HLZ := Aside0.mk (show (rows.take k).length ≤ 1000 by simp; omega)
  have HCL := Aside0.mk (clone_i.calls A1 c1 x _ C1 (by omega))
  have i2 : (k : Int) < (n : Int) := by omega
  obtain ⟨nx, hnx⟩ : ∃ nx, x.length = nx := ⟨_, rfl⟩
  have HNX := Aside0.mk hnx
  rw [hnx] at HCL e1 l1
  clear hx C1 hxl hnx
  go_wp2_with fail
  refine HCL.out.mono ?_
  rintro e w5 ⟨u, rfl, hu, hb1⟩
  obtain ⟨ua, uc, rfl⟩ := Kd.aKz hu
  rw [HNX.out]
  have hsf := S_fresh HO.out hb1 HB.out.size hu
  rw [HNX.out] at hsf
  have HS1 := Aside0.mk hsf.1
  have HM1 := Aside0.mk hsf.2.1
  have HOK := Aside0.mk hsf.2.2
  have HB5 := Aside0.mk (HB.out.trans (hb1.mono HB.out.size))
  clear hu hb1 hsf
  go_wp2_with ((with_reducible refine asz (b := .append) (xs := #[.tmp 12, .tmp 15]) rfl ?_); go_must (at_builtin; refine Kd.bjz (dM 3 .i64) (w0 := W) W.heap.size rfl (.tmp 12) (.tmp 15) 69 57 (.slice none 0 0) 24 rfl Tryz.underlying69 kr_ rfl (by decide) (by decide) _ _ x [.slice ua nx uc] (fun _ => True) (fun k' => wr.heap.size ≤ k') rfl rfl HM1.out HOK.out (fun _ _ => trivial) HS1.out HB5.out HB5.out.size ?aL ?_; (case aL => have := HLZ.out; omega)); intro v2 w6 ho2 hb2 hg2 hat2; have HO2 := Aside0.mk ho2; have HB2 := Aside0.mk hb2; clear ho2 hb2 hg2 hat2)
  go_roundw
  case rel => exact ⟨k + 1, by omega, by go_num, ⟨by rw [HZ.out]; exact HO2.out⟩, HB2⟩
  case measure => simp [intOf]; omega
 ·obtain rfl : k = n := by omega
  have HFN := Aside0.mk HO.out
  rw [List.take_of_length_le (by rw [HN.out]; exact Nat.le_refl _)] at HFN
  go_wp2
  go_ret
  exact ⟨_, rfl, HFN.out, HB.out⟩
end Go.Proofs.YtpdakdcmahlghaaGreat.XCo
end
