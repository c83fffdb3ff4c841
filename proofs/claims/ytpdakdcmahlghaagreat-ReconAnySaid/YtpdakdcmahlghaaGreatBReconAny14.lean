-- Joined by this work's own program (wip/tools/bundle.py) out of its texts: what this claim uses of them. Not trusted: Lean checks it.
import Derived.Test.YtpdakdcmahlghaaGreatBReconAny13
section
namespace Go.Proofs.YtpdakdcmahlghaaGreat.XCo
open Go.RowKit Go.Proofs.YtpdakdcmahlghaaGreatW.PrintWords Go.Proofs.YtpdakdcmahlghaaGreatW.PrintLast Go.Proofs.YtpdakdcmahlghaaGreatW.PrintMore
attribute [local go_sem] aAz aBz aIz aJz atz auz aCz aDz
set_option linter.unusedVariables false
set_option linter.unusedSimpArgs false
def bpz.f (k : Nat) (a0_0 : Int) (a0_1 : Int) (a0_2 : Int) (l1 : List Int) : Option ((List (List Int)) × Int) := (aMz.f k a0_0 a0_1 a0_2 l1).bind fun bt132 => (if bt132.2 = 0 then ((amz.f k a0_0 a0_1 a0_2 bt132.1).bind fun bt136 => (if bt132.1.length + bt136.1.length < 5864062014805 then (some ((bt132.1 ++ bt136.1), bt136.2)) else (none))) else (some (([] : List (List Int)), bt132.2)))
set_option maxHeartbeats 8000000 in
set_option maxRecDepth 100000 in
theorem bpz.calls (k : Nat) (a0_0 : Int) (a0_1 : Int) (a0_2 : Int) (A1 : Option Addr) (c1 : Nat) (l1 : List Int) (r1 : List (List Int)) (r2 : Int) (w : World) (hr1 : Kd.C (Kd.int .u8) w A1 l1.length l1) (hc1 : l1.length ≤ c1) (h : bpz.f k a0_0 a0_1 a0_2 l1 = some (r1, r2)) :
  Calls Tryz.prog 24 #[.agg #[.int .i64 a0_0, .int .i64 a0_1, .int .i64 a0_2], .slice A1 l1.length c1] w fun e w' => ∃ v0_ : Value, e = .returned (.tuple #[v0_, .int .i64 r2]) ∧ Kd.N (Kd.slice 5 (Kd.int .u8)) 34 w' w.heap.size (fun k_ => (w.heap.size ≤ k_)) v0_ r1 ∧ Below w.heap.size w w' := by
 have hu23 := Tryz.underlying23
 have HR1 := Aside0.mk hr1
 have HC1 := Aside0.mk hc1
 clear hr1 hc1
 have HB := Aside0.mk (Below.refl w.heap.size w)
 have H := h
 clear h
 unfold bpz.f at H
 obtain ⟨⟨t132, t135⟩, A3, H⟩ := ob_ H
 (try dsimp only at H)
 by_cases c4 : t135 = 0
 rotate_left
 ·rw [if_neg c4] at H
  have c4b0 : (t135 == 0) = false := beq_eq_false_iff_ne.mpr c4
  have c4b1 : (t135 != 0) = true := bne_iff_ne.mpr c4
  simp only [Option.some.injEq, Prod.mk.injEq] at H
  obtain ⟨rfl, rfl⟩ := H
  go_enter Tryz.func24, Tryz.ntmps24
  go_wp2_with (first | ((with_reducible refine ayz (N := 2) rfl ?_); refine bx_ 2 #[.int .i64 a0_0, .int .i64 a0_1, .int .i64 a0_2] 23 ?_; intro gb131 hg w15 hbox hb; have n_ := And.intro (hs_ HB hb) (And.intro (Aside0.mk (hbox)) (And.intro (ag_ HB gb131) (ag_ HB gb131))); clear HB; obtain ⟨HB, BK131, GW131, GE131⟩ := n_; clear hb hbox hg; obtain ⟨hcz16_0, hfz16_0, hcz16_1, hfz16_1, hcz16_2, hfz16_2⟩ := bc3_ BK131.out) | ((with_reducible refine aoz (f := 55) rfl ?_); refine gl_ (some 12) Tryz.func55 #[.agg #[.int .i64 a0_0, .int .i64 a0_1, .int .i64 a0_2], .slice A1 l1.length c1] ?_; (with_reducible refine (aMz.calls k a0_0 a0_1 a0_2 _ _ l1 t132 t135 _ (xd_ (Kd.aHz HR1.out HB.out)) (HC1.out) A3.out).mono ?_); rintro e w17 ⟨v133, rfl, ho0, hb⟩; refine ⟨_, rfl, ?_⟩; have n_ := And.intro (Aside0.mk (Kd.czz (Kd.ckz (ok' := fun k_ => (w.heap.size ≤ k_) ∧ k_ ≠ gb131) (Kd.S_N (Kd.a4z ho0)) (fun k_ hk_ => ⟨(Nat.le_trans (aNz bl_) hk_.2.1), (Kd.freshB (g := gb131) (o := .cells #[.int .i64 a0_0, .int .i64 a0_1, .int .i64 a0_2] 23 (0, 0)) bk_ k_ hk_.2.1)⟩)) (aNz bl_))) (And.intro (bb_ BK131 hb) (hs_ HB hb)); clear BK131 HB; obtain ⟨HO134, BK131, HB⟩ := n_; clear hb ho0))
  go_ret2
  exact ⟨_, er_, nl_, bl_⟩
 rw [if_pos c4] at H
 have c4b0 : (t135 == 0) = true := beq_iff_eq.mpr c4
 have c4b1 : (t135 != 0) = false := bne_eq_false_iff_eq.mpr c4
 clear c4
 obtain ⟨⟨t136, t139⟩, A5, H⟩ := ob_ H
 (try dsimp only at H)
 by_cases c6 : t132.length + t136.length < 5864062014805
 rotate_left
 ·rw [if_neg c6] at H
  exact absurd H (by simp)
 rw [if_pos c6] at H
 have LMc6 := Aside0.mk c6
 clear c6
 obtain ⟨y140, hy140⟩ : ∃ y_ : List (List Int), y_ = (t132 ++ t136) := ⟨_, rfl⟩
 first | rw [Option.bind_some, ← hy140] at H | rw [← hy140] at H
 (try dsimp only at H)
 have Ny140 := Aside0.mk hy140
 clear hy140
 simp only [Option.some.injEq, Prod.mk.injEq] at H
 obtain ⟨rfl, rfl⟩ := H
 go_enter Tryz.func24, Tryz.ntmps24
 go_wp2_with (first | ((with_reducible refine ayz (N := 2) rfl ?_); refine bx_ 2 #[.int .i64 a0_0, .int .i64 a0_1, .int .i64 a0_2] 23 ?_; intro gb131 hg w7 hbox hb; have n_ := And.intro (hs_ HB hb) (And.intro (Aside0.mk (hbox)) (And.intro (ag_ HB gb131) (ag_ HB gb131))); clear HB; obtain ⟨HB, BK131, GW131, GE131⟩ := n_; clear hb hbox hg; obtain ⟨hcz8_0, hfz8_0, hcz8_1, hfz8_1, hcz8_2, hfz8_2⟩ := bc3_ BK131.out) | ((with_reducible refine aoz (f := 55) rfl ?_); refine gl_ (some 12) Tryz.func55 #[.agg #[.int .i64 a0_0, .int .i64 a0_1, .int .i64 a0_2], .slice A1 l1.length c1] ?_; (with_reducible refine (aMz.calls k a0_0 a0_1 a0_2 _ _ l1 t132 t135 _ (xd_ (Kd.aHz HR1.out HB.out)) (HC1.out) A3.out).mono ?_); rintro e w9 ⟨v133, rfl, ho0, hb⟩; refine ⟨_, rfl, ?_⟩; have n_ := And.intro (Aside0.mk (Kd.czz (Kd.ckz (ok' := fun k_ => (w.heap.size ≤ k_) ∧ k_ ≠ gb131) (Kd.S_N (Kd.a4z ho0)) (fun k_ hk_ => ⟨(Nat.le_trans (aNz bl_) hk_.2.1), (Kd.freshB (g := gb131) (o := .cells #[.int .i64 a0_0, .int .i64 a0_1, .int .i64 a0_2] 23 (0, 0)) bk_ k_ hk_.2.1)⟩)) (aNz bl_))) (And.intro (bb_ BK131 hb) (hs_ HB hb)); clear BK131 HB; obtain ⟨HO134, BK131, HB⟩ := n_; clear hb ho0; obtain ⟨hcz10_0, hfz10_0, hcz10_1, hfz10_1, hcz10_2, hfz10_2⟩ := bc3_ BK131.out; obtain ⟨Ao11, co11, eo11⟩ := Kd.cAz HO134.out; subst eo11) | ((with_reducible refine aoz (f := 19) rfl ?_); refine gl_ (some 21) Tryz.func19 #[.agg #[.int .i64 a0_0, .int .i64 a0_1, .int .i64 a0_2], .slice Ao11 t132.length co11] ?_; (with_reducible refine (amz.calls k a0_0 a0_1 a0_2 _ _ t132 t136 t139 _ (xd_ (Kd.bmz HO134.out).2.2) ((Kd.bmz HO134.out).2.1) A5.out).mono ?_); rintro e w12 ⟨v137, rfl, ho0, hb⟩; refine ⟨_, rfl, ?_⟩; have n_ := And.intro (Aside0.mk (Kd.bOz (xd_ HO134.out) (Kd.cNz ho0) hb)) (And.intro (Aside0.mk (Kd.czz (Kd.ckz (ok' := fun k_ => (w.heap.size ≤ k_) ∧ some k_ ≠ (.slice Ao11 t132.length co11 : Value).ownBlock ∧ k_ ≠ gb131) (Kd.S_N (Kd.a4z ho0)) (fun k_ hk_ => ⟨(Nat.le_trans (aNz bl_) hk_.2.1), (Kd.fresh' (Kd.N_lt (xd_ HO134.out)) k_ hk_.2.1), (Kd.freshB (g := gb131) (o := .cells #[.int .i64 a0_0, .int .i64 a0_1, .int .i64 a0_2] 23 (0, 0)) bk_ k_ hk_.2.1)⟩)) (aNz bl_))) (And.intro (bb_ BK131 hb) (hs_ HB hb))); clear HO134 BK131 HB; obtain ⟨HO134, HO138, BK131, HB⟩ := n_; clear hb ho0; obtain ⟨Ao14, co14, eo14⟩ := Kd.cAz HO138.out; subst eo14) | ((with_reducible refine asz (b := .append) (xs := #[.tmp 24, .tmp 25]) rfl ?_); at_builtin; refine Kd.enz (Kd.slice 5 (Kd.int .u8)) (w0 := w) w.heap.size rfl (.tmp 24) (.tmp 25) 24 34 (.slice none 0 0) 24 rfl Tryz.underlying24 info34 rfl (by decide) (by omega) (.slice Ao11 t132.length co11) t132 t136 _ _ _ (fun k_ => (w.heap.size ≤ k_) ∧ k_ ≠ gb131) (fun k_ => ((fun k_ => (w.heap.size ≤ k_) ∧ k_ ≠ gb131)) k_ ∧ some k_ ≠ (.slice Ao11 t132.length co11 : Value).ownBlock) rfl rfl ?aO ?aR (fun _ hk => hk) ?aF ?aB ?aS ?aL ?_; (case aR => exact (by skip; exact Kd.N_F (Kd.ckz (ok' := (fun k_ => ((fun k_ => (w.heap.size ≤ k_) ∧ k_ ≠ gb131)) k_ ∧ some k_ ≠ (.slice Ao11 t132.length co11 : Value).ownBlock)) (HO138.out) (fun k_ hk => ⟨⟨hk.1, hk.2.2⟩, hk.2.1⟩)))); (case aB => exact bl_); (case aF => exact (fun k_ hk => ⟨(Nat.le_trans (aNz bl_) hk), Kd.freshB (g := gb131) (o := .cells #[.int .i64 a0_0, .int .i64 a0_1, .int .i64 a0_2] 23 (0, 0)) bk_ k_ hk⟩)); (case aO => exact (nm_ HO134)); (case aS => exact (aNz bl_)); (case aL => have := LMc6.out; omega); intro v141 w13 ho hb hg hat; rw [← Ny140.out] at ho; have n_ := And.intro (Aside0.mk (blk_grown (g := gb131) (o := .cells #[.int .i64 a0_0, .int .i64 a0_1, .int .i64 a0_2] 23 (0, 0)) bk_ hg (Kd.N_ne HO134.out BK131.out (by decide)))) (And.intro (Aside0.mk (Kd.N_afterv (ok := (fun k_ => (w.heap.size ≤ k_) ∧ k_ ≠ gb131)) (nm_ HO138) hg hat)) (And.intro (Aside0.mk (hb)) (Aside0.mk (ho)))); clear BK131 HO138 HB HO134; obtain ⟨BK131, HO138, HB, HO142⟩ := n_; clear ho hb hg hat))
 go_ret2
 exact ⟨_, er_, nm_ HO142, bl_⟩
def bFz.f (a0 : Int) : Option (ByteArray × Int × Int × Int × Int × Bool) := if a0 = 1 then (some ((⟨#[106, 118]⟩ : ByteArray), 8, 285, 106, 4, true)) else (if a0 = 2 then (some ((⟨#[106, 99]⟩ : ByteArray), 16, 69643, 106, 4, true)) else (if a0 = 3 then (some ((⟨#[105, 114]⟩ : ByteArray), 8, 285, 105, 3, true)) else (if a0 = 4 then (some ((⟨#[105, 99]⟩ : ByteArray), 8, 285, 105, 4, true)) else (if a0 = 5 then (some ((⟨#[98, 98]⟩ : ByteArray), 8, 285, 98, 4, true)) else (if a0 = 6 then (some ((⟨#[107, 112]⟩ : ByteArray), 8, 285, 112, 4, true)) else (some ((⟨#[]⟩ : ByteArray), 0, 0, 0, 0, false)))))))
set_option maxHeartbeats 8000000 in
set_option maxRecDepth 100000 in
theorem bFz.calls (a0 : Int) (r1 : ByteArray) (r2 : Int) (r3 : Int) (r4 : Int) (r5 : Int) (r6 : Bool) (w : World) (h : bFz.f a0 = some (r1, r2, r3, r4, r5, r6)) :
  Calls Tryz.prog 50 #[.int .i64 a0] w fun e w' => e = .returned (.tuple #[.agg #[.string r1, .int .i64 r2, .int .u32 r3, .int .u8 r4, .int .i64 r5], .bool r6]) ∧ Below w.heap.size w w' := by
 have hu79 := Tryz.underlying79
 have HB := Aside0.mk (Below.refl w.heap.size w)
 have H := h
 clear h
 unfold bFz.f at H
 by_cases c2 : a0 = 1
 ·rw [if_pos c2] at H
  have c2b0 : (a0 == 1) = true := beq_iff_eq.mpr c2
  have c2b1 : (a0 != 1) = false := bne_eq_false_iff_eq.mpr c2
  clear c2
  simp only [Option.some.injEq, Prod.mk.injEq] at H
  obtain ⟨rfl, rfl, rfl, rfl, rfl, rfl⟩ := H
  go_enter Tryz.func50, Tryz.ntmps50
  go_wp2_with (first | ((with_reducible refine ayz (N := 2) rfl ?_); refine aYz ?hg (N := 2) ?hd (cs := #[.string (⟨#[]⟩ : ByteArray), .int .i64 0, .int .u32 0, .int .u8 0, .int .i64 0]) (t := 79) ?hr ?_; (case hd => rfl); (case hg => rfl); (case hr => first | (go_simp; done) | (go_simp; rfl)); intro gb143 hg w3 hbox hb; have n_ := And.intro (hs_ HB hb) (And.intro (Aside0.mk (hbox)) (And.intro (ag_ HB gb143) (ag_ HB gb143))); clear HB; obtain ⟨HB, BK143, GW143, GE143⟩ := n_; clear hb hbox hg; obtain ⟨hcz4_0, hfz4_0, hcz4_1, hfz4_1, hcz4_2, hfz4_2, hcz4_3, hfz4_3, hcz4_4, hfz4_4⟩ := bc5_ BK143.out))
  refine bodyPost_ret (chz rfl _ _ gb143 79 #[.string (⟨#[106, 118]⟩ : ByteArray), .int .i64 8, .int .u32 285, .int .u8 106, .int .i64 4] (0, 0) _ rfl (by (with_reducible repeat (first | refine agz ?_ _ | refine ahz ?_ | refine acz ?_ _)); refine awz (cs := #[.string (⟨#[106, 118]⟩ : ByteArray), .int .i64 8, .int .u32 285, .int .u8 106, .int .i64 0]) ?_ 4 _ rfl; (with_reducible repeat (first | refine agz ?_ _ | refine ahz ?_ | refine acz ?_ _)); refine awz (cs := #[.string (⟨#[106, 118]⟩ : ByteArray), .int .i64 8, .int .u32 285, .int .u8 0, .int .i64 0]) ?_ 3 _ rfl; (with_reducible repeat (first | refine agz ?_ _ | refine ahz ?_ | refine acz ?_ _)); refine awz (cs := #[.string (⟨#[106, 118]⟩ : ByteArray), .int .i64 8, .int .u32 0, .int .u8 0, .int .i64 0]) ?_ 2 _ rfl; (with_reducible repeat (first | refine agz ?_ _ | refine ahz ?_ | refine acz ?_ _)); refine awz (cs := #[.string (⟨#[106, 118]⟩ : ByteArray), .int .i64 0, .int .u32 0, .int .u8 0, .int .i64 0]) ?_ 1 _ rfl; (with_reducible repeat (first | refine agz ?_ _ | refine ahz ?_ | refine acz ?_ _)); refine awz (cs := #[.string (⟨#[]⟩ : ByteArray), .int .i64 0, .int .u32 0, .int .u8 0, .int .i64 0]) ?_ 0 _ rfl; (with_reducible repeat (first | refine agz ?_ _ | refine ahz ?_ | refine acz ?_ _)); exact BK143.out) Tryz.underlying79 rfl kr_) rfl ?_
  exact ⟨er_, bl_⟩
 ·rw [if_neg c2] at H
  have c2b0 : (a0 == 1) = false := beq_eq_false_iff_ne.mpr c2
  have c2b1 : (a0 != 1) = true := bne_iff_ne.mpr c2
  by_cases c5 : a0 = 2
  ·rw [if_pos c5] at H
   have c5b0 : (a0 == 2) = true := beq_iff_eq.mpr c5
   have c5b1 : (a0 != 2) = false := bne_eq_false_iff_eq.mpr c5
   clear c5
   simp only [Option.some.injEq, Prod.mk.injEq] at H
   obtain ⟨rfl, rfl, rfl, rfl, rfl, rfl⟩ := H
   go_enter Tryz.func50, Tryz.ntmps50
   go_wp2_with (first | ((with_reducible refine ayz (N := 2) rfl ?_); refine aYz ?hg (N := 2) ?hd (cs := #[.string (⟨#[]⟩ : ByteArray), .int .i64 0, .int .u32 0, .int .u8 0, .int .i64 0]) (t := 79) ?hr ?_; (case hd => rfl); (case hg => rfl); (case hr => first | (go_simp; done) | (go_simp; rfl)); intro gb143 hg w6 hbox hb; have n_ := And.intro (hs_ HB hb) (And.intro (Aside0.mk (hbox)) (And.intro (ag_ HB gb143) (ag_ HB gb143))); clear HB; obtain ⟨HB, BK143, GW143, GE143⟩ := n_; clear hb hbox hg; obtain ⟨hcz7_0, hfz7_0, hcz7_1, hfz7_1, hcz7_2, hfz7_2, hcz7_3, hfz7_3, hcz7_4, hfz7_4⟩ := bc5_ BK143.out))
   refine bodyPost_ret (chz rfl _ _ gb143 79 #[.string (⟨#[106, 99]⟩ : ByteArray), .int .i64 16, .int .u32 69643, .int .u8 106, .int .i64 4] (0, 0) _ rfl (by (with_reducible repeat (first | refine agz ?_ _ | refine ahz ?_ | refine acz ?_ _)); refine awz (cs := #[.string (⟨#[106, 99]⟩ : ByteArray), .int .i64 16, .int .u32 69643, .int .u8 106, .int .i64 0]) ?_ 4 _ rfl; (with_reducible repeat (first | refine agz ?_ _ | refine ahz ?_ | refine acz ?_ _)); refine awz (cs := #[.string (⟨#[106, 99]⟩ : ByteArray), .int .i64 16, .int .u32 69643, .int .u8 0, .int .i64 0]) ?_ 3 _ rfl; (with_reducible repeat (first | refine agz ?_ _ | refine ahz ?_ | refine acz ?_ _)); refine awz (cs := #[.string (⟨#[106, 99]⟩ : ByteArray), .int .i64 16, .int .u32 0, .int .u8 0, .int .i64 0]) ?_ 2 _ rfl; (with_reducible repeat (first | refine agz ?_ _ | refine ahz ?_ | refine acz ?_ _)); refine awz (cs := #[.string (⟨#[106, 99]⟩ : ByteArray), .int .i64 0, .int .u32 0, .int .u8 0, .int .i64 0]) ?_ 1 _ rfl; (with_reducible repeat (first | refine agz ?_ _ | refine ahz ?_ | refine acz ?_ _)); refine awz (cs := #[.string (⟨#[]⟩ : ByteArray), .int .i64 0, .int .u32 0, .int .u8 0, .int .i64 0]) ?_ 0 _ rfl; (with_reducible repeat (first | refine agz ?_ _ | refine ahz ?_ | refine acz ?_ _)); exact BK143.out) Tryz.underlying79 rfl kr_) rfl ?_
   exact ⟨er_, bl_⟩
  ·rw [if_neg c5] at H
   have c5b0 : (a0 == 2) = false := beq_eq_false_iff_ne.mpr c5
   have c5b1 : (a0 != 2) = true := bne_iff_ne.mpr c5
   by_cases c8 : a0 = 3
   ·rw [if_pos c8] at H
    have c8b0 : (a0 == 3) = true := beq_iff_eq.mpr c8
    have c8b1 : (a0 != 3) = false := bne_eq_false_iff_eq.mpr c8
    clear c8
    simp only [Option.some.injEq, Prod.mk.injEq] at H
    obtain ⟨rfl, rfl, rfl, rfl, rfl, rfl⟩ := H
    go_enter Tryz.func50, Tryz.ntmps50
    go_wp2_with (first | ((with_reducible refine ayz (N := 2) rfl ?_); refine aYz ?hg (N := 2) ?hd (cs := #[.string (⟨#[]⟩ : ByteArray), .int .i64 0, .int .u32 0, .int .u8 0, .int .i64 0]) (t := 79) ?hr ?_; (case hd => rfl); (case hg => rfl); (case hr => first | (go_simp; done) | (go_simp; rfl)); intro gb143 hg w9 hbox hb; have n_ := And.intro (hs_ HB hb) (And.intro (Aside0.mk (hbox)) (And.intro (ag_ HB gb143) (ag_ HB gb143))); clear HB; obtain ⟨HB, BK143, GW143, GE143⟩ := n_; clear hb hbox hg; obtain ⟨hcz10_0, hfz10_0, hcz10_1, hfz10_1, hcz10_2, hfz10_2, hcz10_3, hfz10_3, hcz10_4, hfz10_4⟩ := bc5_ BK143.out))
    refine bodyPost_ret (chz rfl _ _ gb143 79 #[.string (⟨#[105, 114]⟩ : ByteArray), .int .i64 8, .int .u32 285, .int .u8 105, .int .i64 3] (0, 0) _ rfl (by (with_reducible repeat (first | refine agz ?_ _ | refine ahz ?_ | refine acz ?_ _)); refine awz (cs := #[.string (⟨#[105, 114]⟩ : ByteArray), .int .i64 8, .int .u32 285, .int .u8 105, .int .i64 0]) ?_ 4 _ rfl; (with_reducible repeat (first | refine agz ?_ _ | refine ahz ?_ | refine acz ?_ _)); refine awz (cs := #[.string (⟨#[105, 114]⟩ : ByteArray), .int .i64 8, .int .u32 285, .int .u8 0, .int .i64 0]) ?_ 3 _ rfl; (with_reducible repeat (first | refine agz ?_ _ | refine ahz ?_ | refine acz ?_ _)); refine awz (cs := #[.string (⟨#[105, 114]⟩ : ByteArray), .int .i64 8, .int .u32 0, .int .u8 0, .int .i64 0]) ?_ 2 _ rfl; (with_reducible repeat (first | refine agz ?_ _ | refine ahz ?_ | refine acz ?_ _)); refine awz (cs := #[.string (⟨#[105, 114]⟩ : ByteArray), .int .i64 0, .int .u32 0, .int .u8 0, .int .i64 0]) ?_ 1 _ rfl; (with_reducible repeat (first | refine agz ?_ _ | refine ahz ?_ | refine acz ?_ _)); refine awz (cs := #[.string (⟨#[]⟩ : ByteArray), .int .i64 0, .int .u32 0, .int .u8 0, .int .i64 0]) ?_ 0 _ rfl; (with_reducible repeat (first | refine agz ?_ _ | refine ahz ?_ | refine acz ?_ _)); exact BK143.out) Tryz.underlying79 rfl kr_) rfl ?_
    exact ⟨er_, bl_⟩
   ·rw [if_neg c8] at H
    have c8b0 : (a0 == 3) = false := beq_eq_false_iff_ne.mpr c8
    have c8b1 : (a0 != 3) = true := bne_iff_ne.mpr c8
    by_cases c11 : a0 = 4
    ·rw [if_pos c11] at H
     have c11b0 : (a0 == 4) = true := beq_iff_eq.mpr c11
     have c11b1 : (a0 != 4) = false := bne_eq_false_iff_eq.mpr c11
     clear c11
     simp only [Option.some.injEq, Prod.mk.injEq] at H
     obtain ⟨rfl, rfl, rfl, rfl, rfl, rfl⟩ := H
     go_enter Tryz.func50, Tryz.ntmps50
     go_wp2_with (first | ((with_reducible refine ayz (N := 2) rfl ?_); refine aYz ?hg (N := 2) ?hd (cs := #[.string (⟨#[]⟩ : ByteArray), .int .i64 0, .int .u32 0, .int .u8 0, .int .i64 0]) (t := 79) ?hr ?_; (case hd => rfl); (case hg => rfl); (case hr => first | (go_simp; done) | (go_simp; rfl)); intro gb143 hg w12 hbox hb; have n_ := And.intro (hs_ HB hb) (And.intro (Aside0.mk (hbox)) (And.intro (ag_ HB gb143) (ag_ HB gb143))); clear HB; obtain ⟨HB, BK143, GW143, GE143⟩ := n_; clear hb hbox hg; obtain ⟨hcz13_0, hfz13_0, hcz13_1, hfz13_1, hcz13_2, hfz13_2, hcz13_3, hfz13_3, hcz13_4, hfz13_4⟩ := bc5_ BK143.out))
     refine bodyPost_ret (chz rfl _ _ gb143 79 #[.string (⟨#[105, 99]⟩ : ByteArray), .int .i64 8, .int .u32 285, .int .u8 105, .int .i64 4] (0, 0) _ rfl (by (with_reducible repeat (first | refine agz ?_ _ | refine ahz ?_ | refine acz ?_ _)); refine awz (cs := #[.string (⟨#[105, 99]⟩ : ByteArray), .int .i64 8, .int .u32 285, .int .u8 105, .int .i64 0]) ?_ 4 _ rfl; (with_reducible repeat (first | refine agz ?_ _ | refine ahz ?_ | refine acz ?_ _)); refine awz (cs := #[.string (⟨#[105, 99]⟩ : ByteArray), .int .i64 8, .int .u32 285, .int .u8 0, .int .i64 0]) ?_ 3 _ rfl; (with_reducible repeat (first | refine agz ?_ _ | refine ahz ?_ | refine acz ?_ _)); refine awz (cs := #[.string (⟨#[105, 99]⟩ : ByteArray), .int .i64 8, .int .u32 0, .int .u8 0, .int .i64 0]) ?_ 2 _ rfl; (with_reducible repeat (first | refine agz ?_ _ | refine ahz ?_ | refine acz ?_ _)); refine awz (cs := #[.string (⟨#[105, 99]⟩ : ByteArray), .int .i64 0, .int .u32 0, .int .u8 0, .int .i64 0]) ?_ 1 _ rfl; (with_reducible repeat (first | refine agz ?_ _ | refine ahz ?_ | refine acz ?_ _)); refine awz (cs := #[.string (⟨#[]⟩ : ByteArray), .int .i64 0, .int .u32 0, .int .u8 0, .int .i64 0]) ?_ 0 _ rfl; (with_reducible repeat (first | refine agz ?_ _ | refine ahz ?_ | refine acz ?_ _)); exact BK143.out) Tryz.underlying79 rfl kr_) rfl ?_
     exact ⟨er_, bl_⟩
    ·rw [if_neg c11] at H
     have c11b0 : (a0 == 4) = false := beq_eq_false_iff_ne.mpr c11
     have c11b1 : (a0 != 4) = true := bne_iff_ne.mpr c11
     by_cases c14 : a0 = 5
     ·rw [if_pos c14] at H
      have c14b0 : (a0 == 5) = true := beq_iff_eq.mpr c14
      have c14b1 : (a0 != 5) = false := bne_eq_false_iff_eq.mpr c14
      clear c14
      simp only [Option.some.injEq, Prod.mk.injEq] at H
      obtain ⟨rfl, rfl, rfl, rfl, rfl, rfl⟩ := H
      go_enter Tryz.func50, Tryz.ntmps50
      go_wp2_with (first | ((with_reducible refine ayz (N := 2) rfl ?_); refine aYz ?hg (N := 2) ?hd (cs := #[.string (⟨#[]⟩ : ByteArray), .int .i64 0, .int .u32 0, .int .u8 0, .int .i64 0]) (t := 79) ?hr ?_; (case hd => rfl); (case hg => rfl); (case hr => first | (go_simp; done) | (go_simp; rfl)); intro gb143 hg w15 hbox hb; have n_ := And.intro (hs_ HB hb) (And.intro (Aside0.mk (hbox)) (And.intro (ag_ HB gb143) (ag_ HB gb143))); clear HB; obtain ⟨HB, BK143, GW143, GE143⟩ := n_; clear hb hbox hg; obtain ⟨hcz16_0, hfz16_0, hcz16_1, hfz16_1, hcz16_2, hfz16_2, hcz16_3, hfz16_3, hcz16_4, hfz16_4⟩ := bc5_ BK143.out))
      refine bodyPost_ret (chz rfl _ _ gb143 79 #[.string (⟨#[98, 98]⟩ : ByteArray), .int .i64 8, .int .u32 285, .int .u8 98, .int .i64 4] (0, 0) _ rfl (by (with_reducible repeat (first | refine agz ?_ _ | refine ahz ?_ | refine acz ?_ _)); refine awz (cs := #[.string (⟨#[98, 98]⟩ : ByteArray), .int .i64 8, .int .u32 285, .int .u8 98, .int .i64 0]) ?_ 4 _ rfl; (with_reducible repeat (first | refine agz ?_ _ | refine ahz ?_ | refine acz ?_ _)); refine awz (cs := #[.string (⟨#[98, 98]⟩ : ByteArray), .int .i64 8, .int .u32 285, .int .u8 0, .int .i64 0]) ?_ 3 _ rfl; (with_reducible repeat (first | refine agz ?_ _ | refine ahz ?_ | refine acz ?_ _)); refine awz (cs := #[.string (⟨#[98, 98]⟩ : ByteArray), .int .i64 8, .int .u32 0, .int .u8 0, .int .i64 0]) ?_ 2 _ rfl; (with_reducible repeat (first | refine agz ?_ _ | refine ahz ?_ | refine acz ?_ _)); refine awz (cs := #[.string (⟨#[98, 98]⟩ : ByteArray), .int .i64 0, .int .u32 0, .int .u8 0, .int .i64 0]) ?_ 1 _ rfl; (with_reducible repeat (first | refine agz ?_ _ | refine ahz ?_ | refine acz ?_ _)); refine awz (cs := #[.string (⟨#[]⟩ : ByteArray), .int .i64 0, .int .u32 0, .int .u8 0, .int .i64 0]) ?_ 0 _ rfl; (with_reducible repeat (first | refine agz ?_ _ | refine ahz ?_ | refine acz ?_ _)); exact BK143.out) Tryz.underlying79 rfl kr_) rfl ?_
      exact ⟨er_, bl_⟩
     ·rw [if_neg c14] at H
      have c14b0 : (a0 == 5) = false := beq_eq_false_iff_ne.mpr c14
      have c14b1 : (a0 != 5) = true := bne_iff_ne.mpr c14
      by_cases c17 : a0 = 6
      ·rw [if_pos c17] at H
       have c17b0 : (a0 == 6) = true := beq_iff_eq.mpr c17
       have c17b1 : (a0 != 6) = false := bne_eq_false_iff_eq.mpr c17
       clear c17
       simp only [Option.some.injEq, Prod.mk.injEq] at H
       obtain ⟨rfl, rfl, rfl, rfl, rfl, rfl⟩ := H
       go_enter Tryz.func50, Tryz.ntmps50
       go_wp2_with (first | ((with_reducible refine ayz (N := 2) rfl ?_); refine aYz ?hg (N := 2) ?hd (cs := #[.string (⟨#[]⟩ : ByteArray), .int .i64 0, .int .u32 0, .int .u8 0, .int .i64 0]) (t := 79) ?hr ?_; (case hd => rfl); (case hg => rfl); (case hr => first | (go_simp; done) | (go_simp; rfl)); intro gb143 hg w18 hbox hb; have n_ := And.intro (hs_ HB hb) (And.intro (Aside0.mk (hbox)) (And.intro (ag_ HB gb143) (ag_ HB gb143))); clear HB; obtain ⟨HB, BK143, GW143, GE143⟩ := n_; clear hb hbox hg; obtain ⟨hcz19_0, hfz19_0, hcz19_1, hfz19_1, hcz19_2, hfz19_2, hcz19_3, hfz19_3, hcz19_4, hfz19_4⟩ := bc5_ BK143.out))
       refine bodyPost_ret (chz rfl _ _ gb143 79 #[.string (⟨#[107, 112]⟩ : ByteArray), .int .i64 8, .int .u32 285, .int .u8 112, .int .i64 4] (0, 0) _ rfl (by (with_reducible repeat (first | refine agz ?_ _ | refine ahz ?_ | refine acz ?_ _)); refine awz (cs := #[.string (⟨#[107, 112]⟩ : ByteArray), .int .i64 8, .int .u32 285, .int .u8 112, .int .i64 0]) ?_ 4 _ rfl; (with_reducible repeat (first | refine agz ?_ _ | refine ahz ?_ | refine acz ?_ _)); refine awz (cs := #[.string (⟨#[107, 112]⟩ : ByteArray), .int .i64 8, .int .u32 285, .int .u8 0, .int .i64 0]) ?_ 3 _ rfl; (with_reducible repeat (first | refine agz ?_ _ | refine ahz ?_ | refine acz ?_ _)); refine awz (cs := #[.string (⟨#[107, 112]⟩ : ByteArray), .int .i64 8, .int .u32 0, .int .u8 0, .int .i64 0]) ?_ 2 _ rfl; (with_reducible repeat (first | refine agz ?_ _ | refine ahz ?_ | refine acz ?_ _)); refine awz (cs := #[.string (⟨#[107, 112]⟩ : ByteArray), .int .i64 0, .int .u32 0, .int .u8 0, .int .i64 0]) ?_ 1 _ rfl; (with_reducible repeat (first | refine agz ?_ _ | refine ahz ?_ | refine acz ?_ _)); refine awz (cs := #[.string (⟨#[]⟩ : ByteArray), .int .i64 0, .int .u32 0, .int .u8 0, .int .i64 0]) ?_ 0 _ rfl; (with_reducible repeat (first | refine agz ?_ _ | refine ahz ?_ | refine acz ?_ _)); exact BK143.out) Tryz.underlying79 rfl kr_) rfl ?_
       exact ⟨er_, bl_⟩
      ·rw [if_neg c17] at H
       have c17b0 : (a0 == 6) = false := beq_eq_false_iff_ne.mpr c17
       have c17b1 : (a0 != 6) = true := bne_iff_ne.mpr c17
       simp only [Option.some.injEq, Prod.mk.injEq] at H
       obtain ⟨rfl, rfl, rfl, rfl, rfl, rfl⟩ := H
       go_enter Tryz.func50, Tryz.ntmps50
       go_wp2_with (first | ((with_reducible refine ayz (N := 2) rfl ?_); refine aYz ?hg (N := 2) ?hd (cs := #[.string (⟨#[]⟩ : ByteArray), .int .i64 0, .int .u32 0, .int .u8 0, .int .i64 0]) (t := 79) ?hr ?_; (case hd => rfl); (case hg => rfl); (case hr => first | (go_simp; done) | (go_simp; rfl)); intro gb143 hg w20 hbox hb; have n_ := And.intro (hs_ HB hb) (And.intro (Aside0.mk (hbox)) (And.intro (ag_ HB gb143) (ag_ HB gb143))); clear HB; obtain ⟨HB, BK143, GW143, GE143⟩ := n_; clear hb hbox hg; obtain ⟨hcz21_0, hfz21_0, hcz21_1, hfz21_1, hcz21_2, hfz21_2, hcz21_3, hfz21_3, hcz21_4, hfz21_4⟩ := bc5_ BK143.out))
       refine bodyPost_ret (chz rfl _ _ gb143 79 #[.string (⟨#[]⟩ : ByteArray), .int .i64 0, .int .u32 0, .int .u8 0, .int .i64 0] (0, 0) _ rfl (by (with_reducible repeat (first | refine agz ?_ _ | refine ahz ?_ | refine acz ?_ _)); refine awz (cs := #[.string (⟨#[]⟩ : ByteArray), .int .i64 0, .int .u32 0, .int .u8 0, .int .i64 0]) ?_ 4 _ rfl; (with_reducible repeat (first | refine agz ?_ _ | refine ahz ?_ | refine acz ?_ _)); refine awz (cs := #[.string (⟨#[]⟩ : ByteArray), .int .i64 0, .int .u32 0, .int .u8 0, .int .i64 0]) ?_ 3 _ rfl; (with_reducible repeat (first | refine agz ?_ _ | refine ahz ?_ | refine acz ?_ _)); refine awz (cs := #[.string (⟨#[]⟩ : ByteArray), .int .i64 0, .int .u32 0, .int .u8 0, .int .i64 0]) ?_ 2 _ rfl; (with_reducible repeat (first | refine agz ?_ _ | refine ahz ?_ | refine acz ?_ _)); refine awz (cs := #[.string (⟨#[]⟩ : ByteArray), .int .i64 0, .int .u32 0, .int .u8 0, .int .i64 0]) ?_ 1 _ rfl; (with_reducible repeat (first | refine agz ?_ _ | refine ahz ?_ | refine acz ?_ _)); refine awz (cs := #[.string (⟨#[]⟩ : ByteArray), .int .i64 0, .int .u32 0, .int .u8 0, .int .i64 0]) ?_ 0 _ rfl; (with_reducible repeat (first | refine agz ?_ _ | refine ahz ?_ | refine acz ?_ _)); exact BK143.out) Tryz.underlying79 rfl kr_) rfl ?_
       exact ⟨er_, bl_⟩
def baz.f (a0_0 : Int) (a0_1 : Int) (a0_2 : Int) : Option (Int × Int × Int) := (bFz.f (wrap64 (1 + (Int.tmod (wrap64 (a0_0)) 6)))).bind fun bt147 => (if bt147.2.2.2.2.1 = 0 then (none) else (some (wrap64 (1 + (Int.tmod (wrap64 (a0_0)) 6)), wrap64 (1 + (Int.tmod (wrap64 (a0_1)) 8)), wrap64 (1 + (Int.tmod (wrap64 (a0_2)) bt147.2.2.2.2.1)))))
set_option maxHeartbeats 8000000 in
set_option maxRecDepth 100000 in
theorem baz.calls (a0_0 : Int) (a0_1 : Int) (a0_2 : Int) (r1 : Int) (r2 : Int) (r3 : Int) (w : World) (h : baz.f a0_0 a0_1 a0_2 = some (r1, r2, r3)) :
  Calls Tryz.prog 31 #[.agg #[.int .u8 a0_0, .int .u8 a0_1, .int .u8 a0_2]] w fun e w' => e = .returned (.agg #[.int .i64 r1, .int .i64 r2, .int .i64 r3]) ∧ Below w.heap.size w w' := by
 have hu42 := Tryz.underlying42
 have hu23 := Tryz.underlying23
 have hu79 := Tryz.underlying79
 have HB := Aside0.mk (Below.refl w.heap.size w)
 have H := h
 clear h
 unfold baz.f at H
 obtain ⟨⟨t147, t148, t149, t150, t151, t152⟩, A2, H⟩ := ob_ H
 (try dsimp only at H)
 by_cases c3 : t151 = 0
 ·rw [if_pos c3] at H
  exact absurd H (by simp)
 ·rw [if_neg c3] at H
  have c3b0 : (t151 == 0) = false := beq_eq_false_iff_ne.mpr c3
  have c3b1 : (t151 != 0) = true := bne_iff_ne.mpr c3
  simp only [Option.some.injEq, Prod.mk.injEq] at H
  obtain ⟨rfl, rfl, rfl⟩ := H
  go_enter Tryz.func31, Tryz.ntmps31
  go_wp2_with (first | ((with_reducible refine ayz (N := 1) rfl ?_); refine bx_ 1 #[.int .u8 a0_0, .int .u8 a0_1, .int .u8 a0_2] 42 ?_; intro gb144 hg w4 hbox hb; have n_ := And.intro (hs_ HB hb) (And.intro (Aside0.mk (hbox)) (And.intro (ag_ HB gb144) (ag_ HB gb144))); clear HB; obtain ⟨HB, BK144, GW144, GE144⟩ := n_; clear hb hbox hg) | ((with_reducible refine ayz (N := 2) rfl ?_); refine bx_ 2 #[.int .i64 0, .int .i64 0, .int .i64 0] 23 ?_; intro gb145 hg w5 hbox hb; have n_ := And.intro (bb_ BK144 hb) (And.intro (hs_ HB hb) (And.intro (Aside0.mk (hbox)) (And.intro (ag_ HB gb145) (And.intro (ag_ HB gb145) (And.intro (n1_ BK144 gb145) (n2_ BK144 gb145)))))); clear BK144 HB; obtain ⟨BK144, HB, BK145, GW145, GE145, NB144_145, NB145_144⟩ := n_; clear hb hbox hg; have hnb6 := NB144_145.out; have hnc6 := NB145_144.out; obtain ⟨hcz7_0, hfz7_0, hcz7_1, hfz7_1, hcz7_2, hfz7_2⟩ := bc3_ BK144.out) | ((with_reducible refine ayz (N := 3) rfl ?_); refine bx_ 3 #[.int .i64 0, .int .i64 0, .int .i64 0] 23 ?_; intro gb146 hg w8 hbox hb; have n_ := And.intro (bb_ BK144 hb) (And.intro (bb_ BK145 hb) (And.intro (hs_ HB hb) (And.intro (Aside0.mk (hbox)) (And.intro (ag_ HB gb146) (And.intro (ag_ HB gb146) (And.intro (n1_ BK144 gb146) (And.intro (n2_ BK144 gb146) (And.intro (n1_ BK145 gb146) (n2_ BK145 gb146))))))))); clear BK144 BK145 HB; obtain ⟨BK144, BK145, HB, BK146, GW146, GE146, NB144_146, NB146_144, NB145_146, NB146_145⟩ := n_; clear hb hbox hg; have hnb9 := NB146_144.out; have hnc9 := NB144_146.out; have hnb10 := NB146_145.out; have hnc10 := NB145_146.out; obtain ⟨hcz11_0, hfz11_0, hcz11_1, hfz11_1, hcz11_2, hfz11_2⟩ := bc3_ BK146.out) | ((with_reducible refine aoz (f := 50) rfl ?_); refine gl_ (some 20) Tryz.func50 #[.int .i64 (wrap64 (1 + (Int.tmod (wrap64 (a0_0)) 6)))] ?_; (with_reducible refine (bFz.calls (wrap64 (1 + (Int.tmod (wrap64 (a0_0)) 6))) t147 t148 t149 t150 t151 t152 _ A2.out).mono ?_); rintro e w12 ⟨rfl, hb⟩; refine ⟨_, rfl, ?_⟩; have n_ := And.intro (Aside0.mk (aez (g := gb144) (o := .cells #[.int .u8 a0_0, .int .u8 a0_1, .int .u8 a0_2] 42 (0, 0)) (by (with_reducible repeat (first | refine agz ?_ _ | refine ahz ?_ | refine acz ?_ _)); refine axz ?_ NB144_146.out _; (with_reducible repeat (first | refine agz ?_ _ | refine ahz ?_ | refine acz ?_ _)); refine axz ?_ NB144_146.out _; (with_reducible repeat (first | refine agz ?_ _ | refine ahz ?_ | refine acz ?_ _)); refine axz ?_ NB144_146.out _; (with_reducible repeat (first | refine agz ?_ _ | refine ahz ?_ | refine acz ?_ _)); exact BK144.out) hb)) (And.intro (Aside0.mk (aez (g := gb145) (o := .cells #[.int .i64 0, .int .i64 0, .int .i64 0] 23 (0, 0)) (by (with_reducible repeat (first | refine agz ?_ _ | refine ahz ?_ | refine acz ?_ _)); refine axz ?_ NB145_146.out _; (with_reducible repeat (first | refine agz ?_ _ | refine ahz ?_ | refine acz ?_ _)); refine axz ?_ NB145_146.out _; (with_reducible repeat (first | refine agz ?_ _ | refine ahz ?_ | refine acz ?_ _)); refine axz ?_ NB145_146.out _; (with_reducible repeat (first | refine agz ?_ _ | refine ahz ?_ | refine acz ?_ _)); exact BK145.out) hb)) (And.intro (Aside0.mk (aez (g := gb146) (o := .cells #[.int .i64 (wrap64 (1 + (Int.tmod (wrap64 (a0_0)) 6))), .int .i64 (wrap64 (1 + (Int.tmod (wrap64 (a0_1)) 8))), .int .i64 0] 23 (0, 0)) (by (with_reducible repeat (first | refine agz ?_ _ | refine ahz ?_ | refine acz ?_ _)); refine awz (cs := #[.int .i64 (wrap64 (1 + (Int.tmod (wrap64 (a0_0)) 6))), .int .i64 (wrap64 (1 + (Int.tmod (wrap64 (a0_1)) 8))), .int .i64 0]) ?_ 2 _ rfl; (with_reducible repeat (first | refine agz ?_ _ | refine ahz ?_ | refine acz ?_ _)); refine awz (cs := #[.int .i64 (wrap64 (1 + (Int.tmod (wrap64 (a0_0)) 6))), .int .i64 0, .int .i64 0]) ?_ 1 _ rfl; (with_reducible repeat (first | refine agz ?_ _ | refine ahz ?_ | refine acz ?_ _)); refine awz (cs := #[.int .i64 0, .int .i64 0, .int .i64 0]) ?_ 0 _ rfl; (with_reducible repeat (first | refine agz ?_ _ | refine ahz ?_ | refine acz ?_ _)); exact BK146.out) hb)) (hs_ HB hb))); clear BK144 BK145 BK146 HB; obtain ⟨BK144, BK145, BK146, HB⟩ := n_; (try clear hb)) | ((with_reducible refine ayz (N := 4) rfl ?_); refine aYz ?hg (N := 4) ?hd (cs := #[.string (⟨#[]⟩ : ByteArray), .int .i64 0, .int .u32 0, .int .u8 0, .int .i64 0]) (t := 79) ?hr ?_; (case hd => rfl); (case hg => rfl); (case hr => first | (go_simp; done) | (go_simp; rfl)); intro gb153 hg w13 hbox hb; have n_ := And.intro (bb_ BK144 hb) (And.intro (bb_ BK145 hb) (And.intro (bb_ BK146 hb) (And.intro (hs_ HB hb) (And.intro (Aside0.mk (hbox)) (And.intro (ag_ HB gb153) (And.intro (ag_ HB gb153) (And.intro (n1_ BK144 gb153) (And.intro (n2_ BK144 gb153) (And.intro (n1_ BK145 gb153) (And.intro (n2_ BK145 gb153) (And.intro (n1_ BK146 gb153) (n2_ BK146 gb153)))))))))))); clear BK144 BK145 BK146 HB; obtain ⟨BK144, BK145, BK146, HB, BK153, GW153, GE153, NB144_153, NB153_144, NB145_153, NB153_145, NB146_153, NB153_146⟩ := n_; clear hb hbox hg; have hnb14 := NB153_144.out; have hnc14 := NB144_153.out; have hnb15 := NB153_145.out; have hnc15 := NB145_153.out; have hnb16 := NB153_146.out; have hnc16 := NB146_153.out; obtain ⟨hcz17_0, hfz17_0, hcz17_1, hfz17_1, hcz17_2, hfz17_2, hcz17_3, hfz17_3, hcz17_4, hfz17_4⟩ := bc5_ BK153.out; obtain ⟨hcz18_0, hfz18_0, hcz18_1, hfz18_1, hcz18_2, hfz18_2⟩ := bc3_ BK144.out; obtain ⟨hcz19_0, hfz19_0, hcz19_1, hfz19_1, hcz19_2, hfz19_2⟩ := bc3_ BK146.out; obtain ⟨hcz20_0, hfz20_0, hcz20_1, hfz20_1, hcz20_2, hfz20_2⟩ := bc3_ BK145.out))
  refine bodyPost_ret (results_cell_row rfl _ _ gb145 23 #[.int .i64 (wrap64 (1 + (Int.tmod (wrap64 (a0_0)) 6))), .int .i64 (wrap64 (1 + (Int.tmod (wrap64 (a0_1)) 8))), .int .i64 (wrap64 (1 + (Int.tmod (wrap64 (a0_2)) t151)))] (0, 0) _ rfl (by (with_reducible repeat (first | refine agz ?_ _ | refine ahz ?_ | refine acz ?_ _)); refine awz (cs := #[.int .i64 (wrap64 (1 + (Int.tmod (wrap64 (a0_0)) 6))), .int .i64 (wrap64 (1 + (Int.tmod (wrap64 (a0_1)) 8))), .int .i64 0]) ?_ 2 _ rfl; (with_reducible repeat (first | refine agz ?_ _ | refine ahz ?_ | refine acz ?_ _)); refine awz (cs := #[.int .i64 (wrap64 (1 + (Int.tmod (wrap64 (a0_0)) 6))), .int .i64 0, .int .i64 0]) ?_ 1 _ rfl; (with_reducible repeat (first | refine agz ?_ _ | refine ahz ?_ | refine acz ?_ _)); refine awz (cs := #[.int .i64 0, .int .i64 0, .int .i64 0]) ?_ 0 _ rfl; (with_reducible repeat (first | refine agz ?_ _ | refine ahz ?_ | refine acz ?_ _)); refine axz ?_ NB145_146.out _; (with_reducible repeat (first | refine agz ?_ _ | refine ahz ?_ | refine acz ?_ _)); refine axz ?_ NB145_153.out _; (with_reducible repeat (first | refine agz ?_ _ | refine ahz ?_ | refine acz ?_ _)); refine axz ?_ NB145_153.out _; (with_reducible repeat (first | refine agz ?_ _ | refine ahz ?_ | refine acz ?_ _)); refine axz ?_ NB145_153.out _; (with_reducible repeat (first | refine agz ?_ _ | refine ahz ?_ | refine acz ?_ _)); refine axz ?_ NB145_153.out _; (with_reducible repeat (first | refine agz ?_ _ | refine ahz ?_ | refine acz ?_ _)); refine axz ?_ NB145_153.out _; (with_reducible repeat (first | refine agz ?_ _ | refine ahz ?_ | refine acz ?_ _)); exact BK145.out) Tryz.underlying23 rfl kr_) rfl ?_
  exact ⟨er_, bl_⟩
def cRz.f (l0_0 : List (List Int)) (a0_1 : Int) (a1 : Int) : Option (Int × Int × Int) := some (a1, a0_1, wrap64 ((l0_0.length : Int) - a0_1))
def bWz.f (k : Nat) (l0_0 : List (List Int)) (a0_1 : Int) (a1 : Int) : Option (Bool) := if 0 < (l0_0.length : Int) then ((aEz.f k a1 8 1 0).bind fun bt158 => (if ((rd_L1 l0_0 0).length : Int) > 0 then (if bt158.1 = 0 then (none) else (some ((((rd_L1 l0_0 0).length : Int) % bt158.1) == 0))) else (some false))) else (none)
def bsz.f (k : Nat) (l0_0 : List (List Int)) (a0_1 : Int) (a1 : Int) : Option (Bool) := (cRz.f l0_0 a0_1 a1).bind fun bt161 => ((aiz.f bt161.1 bt161.2.1 bt161.2.2).bind fun t165 => (if t165 = true then ((bWz.f k l0_0 a0_1 a1).bind fun t166 => (if t166 = true then ((cez.f k bt161.1 bt161.2.1 bt161.2.2 l0_0).bind fun t167 => (some t167)) else (some false))) else (some false)))
mutual
def afz.l0 : Nat → Int → Int → Int → Int → List Bool → Int → Option (List Bool)
 | 0, _, _, _, _, _, _ => none
 | k + 1, x0, x1, x2, x3, x9, x10 => if x10 < x0 then (if x9.length < 140737488355328 then (afz.l0 k x0 x1 x2 x3 (x9 ++ [true]) (wrap64 (x10 + 1))) else (none)) else (if x0 = 0 then (none) else (afz.l1 k x0 x1 x3 x9 (Int.tmod x2 x0) 0))
def afz.l1 : Nat → Int → Int → Int → List Bool → Int → Int → Option (List Bool)
 | 0, _, _, _, _, _, _ => none
 | k + 1, x0, x1, x3, x9, x11, x12 => if x12 < x1 then (afz.j2 k x0 x1 x3 x9 x11 x12 (decide (x12 < x0))) else (afz.j2 k x0 x1 x3 x9 x11 x12 false)
def afz.j2 : Nat → Int → Int → Int → List Bool → Int → Int → Bool → Option (List Bool)
 | 0, _, _, _, _, _, _, _ => none
 | k + 1, x0, x1, x3, x9, x11, x12, x31 => if x31 = true then (afz.l2 k x0 x1 x3 x9 x11 x12) else (some x9)
def afz.l2 : Nat → Int → Int → Int → List Bool → Int → Int → Option (List Bool)
 | 0, _, _, _, _, _, _ => none
 | k + 1, x0, x1, x3, x9, x11, x12 => if 0 ≤ x11 then (if x11 < (x9.length : Int) then (if rdOf false x9 x11 = true then (if x0 = 0 then (none) else (afz.l1 k x0 x1 x3 (x9.set (x11 : Int).toNat false) (Int.tmod (wrap64 (x11 + x3)) x0) (wrap64 (x12 + 1)))) else (if x0 = 0 then (none) else (afz.l2 k x0 x1 x3 x9 (Int.tmod (wrap64 (x11 + 1)) x0) x12))) else (none)) else (none)
end
def afz.f (k : Nat) (a0 : Int) (a1 : Int) (a2 : Int) (a3 : Int) : Option (List Bool) := afz.l0 k a0 a1 a2 a3 ([] : List Bool) 0
set_option maxHeartbeats 8000000 in
set_option maxRecDepth 100000 in
theorem afz.calls (k : Nat) (a0 : Int) (a1 : Int) (a2 : Int) (a3 : Int) (r : List Bool) (w : World) (h : afz.f k a0 a1 a2 a3 = some r) :
  Calls Tryz.prog 32 #[.int .i64 a0, .int .i64 a1, .int .i64 a2, .int .i64 a3] w fun e w' => ∃ v0_ : Value, e = .returned (v0_) ∧ Kd.R Kd.bool 4 w' w.heap.size (fun _ => True) v0_ r ∧ Below w.heap.size w w' := by
 have HB := Aside0.mk (Below.refl w.heap.size w)
 have H := h
 clear h
 unfold afz.f at H
 have H' := Aside0.mk H
 clear H
 go_enter Tryz.func32, Tryz.ntmps32
 go_wp2
 go_loopg [9, 10] k (fun kq v9 v10 w' => ∃ (x9_1 : List Bool) (x10_1 : Int), v10 = .int .i64 x10_1 ∧ Aside0 (afz.l0 kq a0 a1 a2 a3 x9_1 x10_1 = some r) ∧ Aside0 (kq ≤ k) ∧ Aside0 (Kd.R Kd.bool 4 w' w.heap.size (fun _ => True) v9 x9_1) ∧ Aside0 (Below w.heap.size w w'))
 case atStart => exact ⟨(([] : List Bool)), (0), sd_, H', ⟨Nat.le_refl _⟩, ⟨nl_⟩, ⟨bl_⟩⟩
 clear H'
 try clear p2
 try clear c3
 obtain ⟨x9_1, x10_1, rfl, HA, HK1, HO_9, HB⟩ := hrel
 rcases gk with _ | k1
 ·exact absurd HA.out (by simp [afz.l0])
 have H := HA.out
 clear HA
 simp only [afz.l0] at H
 by_cases c5 : x10_1 < a0
 ·rw [if_pos c5] at H
  have c5b0 := decide_eq_true c5
  clear c5
  by_cases c6 : x9_1.length < 140737488355328
  rotate_left
  ·rw [if_neg c6] at H
   exact absurd H (by simp)
  rw [if_pos c6] at H
  have LMc6 := Aside0.mk c6
  clear c6
  obtain ⟨y335, hy335⟩ : ∃ y_ : List Bool, y_ = (x9_1 ++ [true]) := ⟨_, rfl⟩
  first | rw [Option.bind_some, ← hy335] at H | rw [← hy335] at H
  (try dsimp only at H)
  have Ny335 := Aside0.mk hy335
  clear hy335
  have H' := Aside0.mk H
  clear H
  go_wp2_with (first | ((with_reducible refine asz (b := .append) (xs := #[.tmp 18, .tmp 19]) rfl ?_); at_builtin; refine Kd.b2z Kd.bool (w0 := w) w.heap.size rfl (.tmp 18) (.tmp 19) 38 4 (.bool false) 1 rfl Tryz.underlying38 info4 rfl (by decide) (by omega) u9 x9_1 true [.bool true] (fun _ => True) (fun _ => False) rfl rfl ?aP (fun _ hk => hk.elim) ?aF ?aO ?aB ?aS ?aL ?_; (case aP => exact rfl); (case aB => exact bl_); (case aF => exact (fun _ _ => trivial)); (case aO => exact (xd_ HO_9.out)); (case aS => exact (aNz bl_)); (case aL => have := LMc6.out; omega); intro v336 w7 ho hb hg hat; rw [← Ny335.out] at ho; have n_ := And.intro (Aside0.mk (hb)) (Aside0.mk (ho)); clear HB HO_9; obtain ⟨HB, HO337⟩ := n_; clear ho hb hg hat))
  go_roundg k1
  case measure => have := HK1.out; omega
  case rel => exact ⟨(y335), (wrap64 (x10_1 + 1)), sd_, H', ⟨by have := HK1.out; omega⟩, ⟨xd_ HO337.out⟩, ⟨bl_⟩⟩
 ·rw [if_neg c5] at H
  have c5b0 := decide_eq_false c5
  clear c5
  by_cases c8 : a0 = 0
  ·rw [if_pos c8] at H
   exact absurd H (by simp)
  ·rw [if_neg c8] at H
   have c8b0 : (a0 == 0) = false := beq_eq_false_iff_ne.mpr c8
   have c8b1 : (a0 != 0) = true := bne_iff_ne.mpr c8
   have H' := Aside0.mk H
   clear H
   go_wp2
   go_loopg [11, 12] k1 (fun kq v11 v12 w' => ∃ (x9_2 : List Bool) (x11_2 : Int) (x12_2 : Int), v11 = .int .i64 x11_2 ∧ v12 = .int .i64 x12_2 ∧ Aside0 (afz.l1 kq a0 a1 a3 x9_2 x11_2 x12_2 = some r) ∧ Aside0 (kq ≤ k1) ∧ Aside0 (Kd.R Kd.bool 4 w' w.heap.size (fun _ => True) u9 x9_2) ∧ Aside0 (Below w.heap.size w w'))
   case atStart => exact ⟨(x9_1), (Int.tmod a2 a0), (0), sd_, sd_, H', ⟨Nat.le_refl _⟩, ⟨xd_ HO_9.out⟩, ⟨bl_⟩⟩
   clear H'
   try clear p2
   try clear c3
   try clear c5
   try clear c5b0
   try clear c6
   try clear p6
   try clear c8
   try clear c8b0
   try clear c8b1
   try clear p2
   obtain ⟨x9_2, x11_2, x12_2, rfl, rfl, HA, HK2, HO_9, HB⟩ := hrel
   rcases gk with _ | k2
   ·exact absurd HA.out (by simp [afz.l1])
   have H := HA.out
   clear HA
   simp only [afz.l1] at H
   have HC9 := Aside0.mk H
   clear H
   go_upto_region 8 with (fail)
   go_cut [31] (fun v31 wc => ∃ (kq : Nat) (x31_8 : Bool), v31 = .bool x31_8 ∧ Aside0 (afz.j2 kq a0 a1 a3 x9_2 x11_2 x12_2 x31_8 = some r) ∧ Aside0 (kq ≤ k2) ∧ Aside0 (Kd.R Kd.bool 4 wc w.heap.size (fun _ => True) u9 x9_2) ∧ Aside0 (Below w.heap.size w wc))
   case first =>
    have H := HC9.out
    clear HC9
    by_cases c10 : x12_2 < a1
    ·rw [if_pos c10] at H
     have c10b0 := decide_eq_true c10
     clear c10
     (first | rw [c10b0] | (simp only [i64_w, i32_w]; rw [c10b0]) | skip)
     have H' := Aside0.mk H
     clear H
     go_wp2
     go_meet
     case rel => exact ⟨_, (decide (x12_2 < a0)), sd_, H', ⟨by have := HK1.out; have := HK2.out; first | omega | exact Nat.le_refl _⟩, ⟨xd_ HO_9.out⟩, ⟨bl_⟩⟩
    ·rw [if_neg c10] at H
     have c10b0 := decide_eq_false c10
     clear c10
     (first | rw [c10b0] | (simp only [i64_w, i32_w]; rw [c10b0]) | skip)
     have H' := Aside0.mk H
     clear H
     go_wp2
     go_meet
     case rel => exact ⟨_, (false), sd_, H', ⟨by have := HK1.out; have := HK2.out; first | omega | exact Nat.le_refl _⟩, ⟨xd_ HO_9.out⟩, ⟨bl_⟩⟩
   case rest =>
    clear HC9
    try clear c1
    try clear p2
    try clear c3
    try clear c5
    try clear c5b0
    try clear c6
    try clear p6
    try clear c8
    try clear c8b0
    try clear c8b1
    try clear c10
    try clear c10b0
    try clear p2
    try clear p6
    obtain ⟨kq, x31_8, rfl, HA, HJ8, HO_9, HB⟩ := hcut
    rcases kq with _ | kj8
    ·exact absurd HA.out (by simp [afz.j2])
    have H := HA.out
    clear HA
    simp only [afz.j2] at H
    by_cases c11 : x31_8 = true
    rotate_left
    ·replace c11 := Bool.eq_false_iff.mpr c11
     subst c11
     rw [if_neg (show ¬ (false = true) by decide)] at H
     obtain rfl := Option.some.inj H
     go_wp2
     go_ret
     exact ⟨_, er_, xd_ HO_9.out, bl_⟩
    subst c11
    rw [if_pos rfl] at H
    have H' := Aside0.mk H
    clear H
    go_wp2
    go_loopg [11] kj8 (fun kq v11 w' => ∃ (x11_4 : Int), v11 = .int .i64 x11_4 ∧ Aside0 (afz.l2 kq a0 a1 a3 x9_2 x11_4 x12_2 = some r) ∧ Aside0 (kq ≤ kj8) ∧ Aside0 (Kd.R Kd.bool 4 w' w.heap.size (fun _ => True) u9 x9_2) ∧ Aside0 (Below w.heap.size w w'))
    case atStart => exact ⟨(x11_2), sd_, H', ⟨Nat.le_refl _⟩, ⟨xd_ HO_9.out⟩, ⟨bl_⟩⟩
    clear H'
    try clear c1
    try clear p2
    try clear c3
    try clear c5
    try clear c5b0
    try clear c6
    try clear p6
    try clear c8
    try clear c8b0
    try clear c8b1
    try clear c10
    try clear c10b0
    try clear c11
    try clear p2
    try clear p6
    obtain ⟨x11_4, rfl, HA, HK4, HO_9, HB⟩ := hrel
    rcases gk with _ | k4
    ·exact absurd HA.out (by simp [afz.l2])
    have H := HA.out
    clear HA
    simp only [afz.l2] at H
    by_cases c12 : 0 ≤ x11_4
    rotate_left
    ·rw [if_neg c12] at H
     exact absurd H (by simp)
    rw [if_pos c12] at H
    have c12b0 := decide_eq_true c12
    clear c12
    by_cases c13 : x11_4 < (x9_2.length : Int)
    rotate_left
    ·rw [if_neg c13] at H
     exact absurd H (by simp)
    rw [if_pos c13] at H
    have c13b0 := decide_eq_true c13
    clear c13
    obtain ⟨bq14, hbq14⟩ : ∃ b_ : Bool, b_ = (rdOf false x9_2 x11_4) := ⟨_, rfl⟩
    replace H : (if bq14 = true then (if a0 = 0 then (none) else (afz.l1 k4 a0 a1 a3 (x9_2.set (x11_4 : Int).toNat false) (Int.tmod (wrap64 (x11_4 + a3)) a0) (wrap64 (x12_2 + 1)))) else (if a0 = 0 then (none) else (afz.l2 k4 a0 a1 a3 x9_2 (Int.tmod (wrap64 (x11_4 + 1)) a0) x12_2))) = some r := by rw [← hbq14] at H; exact H
    have Nbq14 := Aside0.mk hbq14
    clear hbq14
    by_cases c15 : bq14 = true
    rotate_left
    ·replace c15 := Bool.eq_false_iff.mpr c15
     subst c15
     rw [if_neg (show ¬ (false = true) by decide)] at H
     by_cases c21 : a0 = 0
     ·rw [if_pos c21] at H
      exact absurd H (by simp)
     ·rw [if_neg c21] at H
      have c21b0 : (a0 == 0) = false := beq_eq_false_iff_ne.mpr c21
      have c21b1 : (a0 != 0) = true := bne_iff_ne.mpr c21
      have H' := Aside0.mk H
      clear H
      obtain ⟨Ao22, co22, eo22⟩ := Kd.aPz HO_9.out
      subst eo22
      have p338 : 0 ≤ (x11_4 : Int) := of_decide_eq_true as_
      have q338 : x11_4 < (x9_2.length : Int) := of_decide_eq_true as_
      obtain ⟨ad338, e338, hx338_0⟩ := Kd.doz (Kd.aKz HO_9.out).2.2 x11_4 p338 q338
      (try rw [← Nbq14.out] at hx338_0)
      cases e338
      replace p338 := eq_true p338
      replace q338 := eq_true q338
      go_wp2
      go_roundg k4
      case measure => have := HK1.out; have := HK2.out; have := HJ8.out; have := HK4.out; omega
      case rel => exact ⟨(Int.tmod (wrap64 (x11_4 + 1)) a0), sd_, H', ⟨by have := HK1.out; have := HK2.out; have := HJ8.out; have := HK4.out; omega⟩, ⟨xd_ HO_9.out⟩, ⟨bl_⟩⟩
    subst c15
    rw [if_pos rfl] at H
    obtain ⟨y339, hy339⟩ : ∃ y_ : List Bool, y_ = (x9_2.set (x11_4 : Int).toNat false) := ⟨_, rfl⟩
    first | rw [Option.bind_some, ← hy339] at H | rw [← hy339] at H
    (try dsimp only at H)
    have Ny339 := Aside0.mk hy339
    clear hy339
    by_cases c17 : a0 = 0
    ·rw [if_pos c17] at H
     exact absurd H (by simp)
    ·rw [if_neg c17] at H
     have c17b0 : (a0 == 0) = false := beq_eq_false_iff_ne.mpr c17
     have c17b1 : (a0 != 0) = true := bne_iff_ne.mpr c17
     have H' := Aside0.mk H
     clear H
     obtain ⟨Ao18, co18, eo18⟩ := Kd.aPz HO_9.out
     subst eo18
     have p338 : 0 ≤ (x11_4 : Int) := of_decide_eq_true as_
     have q338 : x11_4 < (x9_2.length : Int) := of_decide_eq_true as_
     obtain ⟨ad338, e338, hx338_0⟩ := Kd.doz (Kd.aKz HO_9.out).2.2 x11_4 p338 q338
     (try rw [← Nbq14.out] at hx338_0)
     cases e338
     replace p338 := eq_true p338
     replace q338 := eq_true q338
     have p16 : 0 ≤ (x11_4 : Int) := of_decide_eq_true as_
     have q16 : (x11_4 : Int) < ((x9_2.length : Int) : Int) := of_decide_eq_true as_
     obtain ⟨go16, co16, eo16, gb16, gl16, cl16, HG16⟩ := Kd.cCz HO_9.out (by omega)
     (first | cases eo16 | (injection eo16 with ea_ en_ ec_; (first | subst ea_ | (injection ea_ with ea_; subst ea_)); subst ec_; clear en_))
     have GB16 := Aside0.mk gb16
     have GG16 := Aside0.mk HG16
     clear gb16 gl16 HG16
     (first | simp only [add_plain] at hx338_0 | skip)
     obtain ⟨hx16_0, hf16_0⟩ := Kd.R_celln false HO_9.out (x11_4 : Int) p16 q16
     replace p16 := eq_true p16
     replace q16 := eq_true q16
     have HP19 := Kd.R_putg HO_9.out (x11_4 : Int) false
     go_wp2_with (first | ((with_reducible refine bAz (t := 4) (p := 45) rfl ?_); refine c4z (t := 4) (p := 45) (v := ?vo_w20) (w1 := (wr.setCell ⟨go16, (x11_4 : Int).toNat, none⟩ (.bool false))) ?hg ?ho ?hn ?hr ?_; (case ho => rfl); (case hg => rfl); (case hn => rfl); (case hr => first | (go_simp; done) | (go_simp; rfl)); intro w20 hw; have hg : wr.grownBy w20 (some go16) := (by rw [hw]; exact HP19.2); have hp_ : Kd.R Kd.bool 4 w20 w.heap.size (fun _ => True) (.slice (some ⟨go16, 0, none⟩) x9_2.length co18) y339 := (by rw [hw, Ny339.out]; exact HP19.1); clear HP19; have n_ := And.intro (Aside0.mk (hp_)) (Aside0.mk ((by rw [hw]; exact cIz (HB.out) GB16.out : Below w.heap.size w w20))); clear HO_9 HB; obtain ⟨HO_9, HB⟩ := n_; clear hg hw hp_))
     go_roundg k4
     case measure => have := HK1.out; have := HK2.out; have := HJ8.out; have := HK4.out; omega
     case rel => exact ⟨(y339), (Int.tmod (wrap64 (x11_4 + a3)) a0), (wrap64 (x12_2 + 1)), sd_, sd_, H', ⟨by have := HK1.out; have := HK2.out; have := HJ8.out; have := HK4.out; omega⟩, ⟨xd_ HO_9.out⟩, ⟨bl_⟩⟩
def anz.l0 : Nat → List (List Int) → List Bool → Int → List (List Int) → Int → Option ((List (List Int)))
 | 0, _, _, _, _, _ => none
 | k + 1, x0, x1, x2, x7, x8 => if x8 < (x0.length : Int) then (if 0 ≤ x8 then (if x8 < (x1.length : Int) then (if rdOf false x1 x8 = true then (if x7.length < 5864062014805 then (anz.l0 k x0 x1 x2 (x7 ++ [rd_L1 x0 x8]) (wrap64 (x8 + 1))) else (none)) else (if x7.length < 5864062014805 then (anz.l0 k x0 x1 x2 (x7 ++ [(([x2, 7] : List Int))]) (wrap64 (x8 + 1))) else (none))) else (none)) else (none)) else (some x7)
def anz.f (k : Nat) (l0 : List (List Int)) (l1 : List Bool) (a2 : Int) : Option ((List (List Int))) := anz.l0 k l0 l1 a2 ([] : List (List Int)) 0
set_option maxHeartbeats 8000000 in
set_option maxRecDepth 100000 in
theorem anz.calls (k : Nat) (P0_ : Nat → Prop) (A0 : Option Addr) (c0 : Nat) (l0 : List (List Int)) (A1 : Option Addr) (c1 : Nat) (l1 : List Bool) (a2 : Int) (r : List (List Int)) (w : World) (hs0 : Kd.V (Kd.slice 5 (Kd.int .u8)) 34 w w.heap.size (fun k_ => P0_ k_) (.slice A0 l0.length c0) l0) (hr1 : Kd.C Kd.bool w A1 l1.length l1) (hc1 : l1.length ≤ c1) (h : anz.f k l0 l1 a2 = some r) :
  Calls Tryz.prog 43 #[.slice A0 l0.length c0, .slice A1 l1.length c1, .int .u8 a2] w fun e w' => ∃ v0_ : Value, e = .returned (v0_) ∧ Kd.N (Kd.slice 5 (Kd.int .u8)) 34 w' w.heap.size (fun k_ => (P0_ k_ ∨ w.heap.size ≤ k_)) v0_ r ∧ Below w.heap.size w w' := by
 have HO0 := Aside0.mk (show Kd.V (Kd.slice 5 (Kd.int .u8)) 34 w w.heap.size (fun k_ => (P0_ k_ ∨ w.heap.size ≤ k_)) (.slice A0 l0.length c0) l0 from Kd.V_mono hs0 (fun k_ hk => .inl hk))
 have HR1 := Aside0.mk hr1
 have HC1 := Aside0.mk hc1
 clear hr1 hc1
 have HB := Aside0.mk (Below.refl w.heap.size w)
 have H := h
 clear h
 unfold anz.f at H
 have H' := Aside0.mk H
 clear H
 go_enter Tryz.func43, Tryz.ntmps43
 go_wp2
 go_loopg [7, 8] k (fun kq v7 v8 w' => ∃ (x7_1 : List (List Int)) (x8_1 : Int), v8 = .int .i64 x8_1 ∧ Aside0 (anz.l0 kq l0 l1 a2 x7_1 x8_1 = some r) ∧ Aside0 (kq ≤ k) ∧ Aside0 (Kd.V (Kd.slice 5 (Kd.int .u8)) 34 w' w.heap.size (fun k_ => (P0_ k_ ∨ w.heap.size ≤ k_) ∧ some k_ ≠ (v7 : Value).ownBlock) (.slice A0 l0.length c0) l0) ∧ Aside0 (Kd.N (Kd.slice 5 (Kd.int .u8)) 34 w' w.heap.size (fun k_ => (P0_ k_ ∨ w.heap.size ≤ k_)) v7 x7_1) ∧ Aside0 (Below w.heap.size w w'))
 case atStart => exact ⟨(([] : List (List Int))), (0), sd_, H', ⟨Nat.le_refl _⟩, ⟨vm_ HO0⟩, ⟨nl_⟩, ⟨bl_⟩⟩
 clear H'
 try clear c1
 try clear p2
 obtain ⟨x7_1, x8_1, rfl, HA, HK1, HO_0, HO_7, HB⟩ := hrel
 rcases gk with _ | k1
 ·exact absurd HA.out (by simp [anz.l0])
 have H := HA.out
 clear HA
 simp only [anz.l0] at H
 by_cases c4 : x8_1 < (l0.length : Int)
 rotate_left
 ·rw [if_neg c4] at H
  have c4b0 := decide_eq_false c4
  clear c4
  obtain rfl := Option.some.inj H
  go_wp2
  go_ret
  exact ⟨_, er_, xd_ HO_7.out, bl_⟩
 rw [if_pos c4] at H
 have c4b0 := decide_eq_true c4
 clear c4
 by_cases c5 : 0 ≤ x8_1
 rotate_left
 ·rw [if_neg c5] at H
  exact absurd H (by simp)
 rw [if_pos c5] at H
 have c5b0 := decide_eq_true c5
 clear c5
 by_cases c6 : x8_1 < (l1.length : Int)
 rotate_left
 ·rw [if_neg c6] at H
  exact absurd H (by simp)
 rw [if_pos c6] at H
 have c6b0 := decide_eq_true c6
 clear c6
 obtain ⟨bq7, hbq7⟩ : ∃ b_ : Bool, b_ = (rdOf false l1 x8_1) := ⟨_, rfl⟩
 replace H : (if bq7 = true then (if x7_1.length < 5864062014805 then (anz.l0 k1 l0 l1 a2 (x7_1 ++ [rd_L1 l0 x8_1]) (wrap64 (x8_1 + 1))) else (none)) else (if x7_1.length < 5864062014805 then (anz.l0 k1 l0 l1 a2 (x7_1 ++ [(([a2, 7] : List Int))]) (wrap64 (x8_1 + 1))) else (none))) = some r := by rw [← hbq7] at H; exact H
 have Nbq7 := Aside0.mk hbq7
 clear hbq7
 by_cases c8 : bq7 = true
 rotate_left
 ·replace c8 := Bool.eq_false_iff.mpr c8
  subst c8
  rw [if_neg (show ¬ (false = true) by decide)] at H
  obtain ⟨y345, hy345⟩ : ∃ y_ : List Int, y_ = (([a2, 7] : List Int)) := ⟨_, rfl⟩
  first | rw [Option.bind_some, ← hy345] at H | rw [← hy345] at H
  (try dsimp only at H)
  have Ny345 := Aside0.mk hy345
  clear hy345
  by_cases c11 : x7_1.length < 5864062014805
  rotate_left
  ·rw [if_neg c11] at H
   exact absurd H (by simp)
  rw [if_pos c11] at H
  have LMc11 := Aside0.mk c11
  clear c11
  obtain ⟨y348, hy348⟩ : ∃ y_ : List (List Int), y_ = (x7_1 ++ [y345]) := ⟨_, rfl⟩
  first | rw [Option.bind_some, ← hy348] at H | rw [← hy348] at H
  (try dsimp only at H)
  have Ny348 := Aside0.mk hy348
  clear hy348
  have H' := Aside0.mk H
  clear H
  have p340 : 0 ≤ (x8_1 : Int) := of_decide_eq_true as_
  have q340 : x8_1 < (l1.length : Int) := of_decide_eq_true as_
  obtain ⟨ad340, e340, hx340_0⟩ := Kd.doz HR1.out x8_1 p340 q340
  (try rw [← Nbq7.out] at hx340_0)
  cases e340
  replace hx340_0 := (HB.out.cell (World.block_lt_of_cell? w _ hx340_0)).trans hx340_0
  replace p340 := eq_true p340
  replace q340 := eq_true q340
  go_wp2_with (first | ((with_reducible refine ayz (N := 28) rfl ?_); refine Kd.R_lit (Kd.int .u8) _ 5 ?hg (N := 28) ?hd (xs := ([a2, 7] : List Int)) (inner := [.int .u8 a2, .int .u8 7]) (ok := fun _ => True) (okp := fun _ => True) ?hr ?hp (fun _ hk => hk) trivial (Below.refl _ _) (Nat.le_refl _) (by simp) ?_; (case hd => rfl); (case hg => rfl); (case hr => first | (go_simp; done) | (go_simp; rfl)); (case hp => exact (Reps.one (show Kd.M (Kd.int .u8) _ _ _ a2 [.int .u8 a2] from rfl) (Reps.one (show Kd.M (Kd.int .u8) _ _ _ 7 [.int .u8 7] from rfl) (Reps.none _ _)))); intro v346 w12 ho13 hb hg_ hnew_; clear hg_ hnew_; (first | rw [← Ny345.out] at ho13 | (simp only [Int.reduceToNat] at ho13; rw [← Ny345.out] at ho13)); have n_ := And.intro (Aside0.mk (Kd.V_elder' (xd_ HO_0.out) (Kd.b4z ho13) hb)) (And.intro (Aside0.mk (Kd.bOz (xd_ HO_7.out) (Kd.b4z ho13) hb)) (And.intro (Aside0.mk (Kd.buz (Kd.R_newM (M := fun k_ => (w.heap.size ≤ k_)) ho13 (aNz bl_) (fun k_ h_ => h_)) (aNz bl_))) (hs_ HB hb))); clear HO_0 HO_7 HB; obtain ⟨HO_0, HO_7, HO347, HB⟩ := n_; clear hb ho13; obtain ⟨Ao15, co15, eo15⟩ := Kd.aPz HO347.out; subst eo15) | ((with_reducible refine asz (b := .append) (xs := #[.tmp 26, .tmp 29]) rfl ?_); at_builtin; refine Kd.N_append (Kd.slice 5 (Kd.int .u8)) (w0 := w) w.heap.size rfl (.tmp 26) (.tmp 29) 24 34 (.slice none 0 0) 24 rfl Tryz.underlying24 info34 rfl (by decide) (by omega) u7 x7_1 y345 [.slice Ao15 y345.length co15] (fun k_ => (P0_ k_ ∨ w.heap.size ≤ k_)) (fun k_ => ((fun k_ => (P0_ k_ ∨ w.heap.size ≤ k_))) k_ ∧ some k_ ≠ (u7 : Value).ownBlock) rfl rfl ?aP (fun _ hk => hk) ?aF ?aO ?aB ?aS ?aL ?_; (case aP => exact (Kd.FK_slice_mk (Kd.aKz (Kd.aVz (ok' := (fun k_ => ((fun k_ => (P0_ k_ ∨ w.heap.size ≤ k_))) k_ ∧ some k_ ≠ (u7 : Value).ownBlock)) (Kd.d5z (HO347.out) (Kd.N_typed HO_7.out) (by decide)) (fun k_ hk => ⟨(.inr (hk.1.1)), hk.2⟩))).2.1 (Kd.R_F (Kd.aVz (ok' := (fun k_ => ((fun k_ => (P0_ k_ ∨ w.heap.size ≤ k_))) k_ ∧ some k_ ≠ (u7 : Value).ownBlock)) (Kd.d5z (HO347.out) (Kd.N_typed HO_7.out) (by decide)) (fun k_ hk => ⟨(.inr (hk.1.1)), hk.2⟩))))); (case aB => exact bl_); (case aF => exact (fun k_ hk => (.inr (Nat.le_trans (aNz bl_) hk)))); (case aO => exact (nm_ HO_7)); (case aS => exact (aNz bl_)); (case aL => have := LMc11.out; omega); intro v349 w14 ho hb hg hat; rw [← Ny348.out] at ho; have n_ := And.intro (Aside0.mk (Kd.V_afterv (ok := (fun k_ => (P0_ k_ ∨ w.heap.size ≤ k_) ∧ some k_ ≠ (.slice Ao15 y345.length co15 : Value).ownBlock)) (vm_ HO_0) hg hat)) (And.intro (Aside0.mk (hb)) (Aside0.mk (ho))); clear HO_0 HB HO_7 HO347; obtain ⟨HO_0, HB, HO350⟩ := n_; clear ho hb hg hat))
  go_roundg k1
  case measure => have := HK1.out; omega
  case rel => exact ⟨(y348), (wrap64 (x8_1 + 1)), sd_, H', ⟨by have := HK1.out; omega⟩, ⟨vm_ HO_0⟩, ⟨xd_ HO350.out⟩, ⟨bl_⟩⟩
 subst c8
 rw [if_pos rfl] at H
 by_cases c9 : x7_1.length < 5864062014805
 rotate_left
 ·rw [if_neg c9] at H
  exact absurd H (by simp)
 rw [if_pos c9] at H
 have LMc9 := Aside0.mk c9
 clear c9
 obtain ⟨y342, hy342⟩ : ∃ y_ : List (List Int), y_ = (x7_1 ++ [rd_L1 l0 x8_1]) := ⟨_, rfl⟩
 first | rw [Option.bind_some, ← hy342] at H | rw [← hy342] at H
 (try dsimp only at H)
 have Ny342 := Aside0.mk hy342
 clear hy342
 have H' := Aside0.mk H
 clear H
 have p340 : 0 ≤ (x8_1 : Int) := of_decide_eq_true as_
 have q340 : x8_1 < (l1.length : Int) := of_decide_eq_true as_
 obtain ⟨ad340, e340, hx340_0⟩ := Kd.doz HR1.out x8_1 p340 q340
 (try rw [← Nbq7.out] at hx340_0)
 cases e340
 replace hx340_0 := (HB.out.cell (World.block_lt_of_cell? w _ hx340_0)).trans hx340_0
 replace p340 := eq_true p340
 replace q340 := eq_true q340
 have p341 : 0 ≤ (x8_1 : Int) := of_decide_eq_true as_
 have q341 : x8_1 < (l0.length : Int) := of_decide_eq_true as_
 obtain ⟨ad341, A341_0, c341_0, e341, hx341_0, hl341_0, hi341_0⟩ := at_L1 (Kd.duz HO_0.out).2.2 x8_1 p341 q341
 cases e341
 obtain ⟨ce341, hce341, hMe341, hcc341⟩ := Kd.V_get HO_0.out [] x8_1 p341 (by first | exact q341 | exact of_decide_eq_true as_ | (have e_ := (Kd.duz HO_0.out).1; omega))
 obtain ⟨ua341_0, uc341_0, rfl, ul341_0, ge341_0⟩ := Kd.eoz hMe341
 have hv341_0 := hcc341 0 _ rfl
 rw [Nat.add_zero, show ((Kd.slice 5 (Kd.int .u8))).sz = 1 from rfl, Nat.mul_one] at hv341_0
 replace hv341_0 := Option.some.inj (hv341_0.symm.trans hx341_0)
 injection hv341_0 with hva_ hvn_ hvc_
 rw [hva_] at ge341_0
 rw [hvc_] at ul341_0
 have HL341_0 := Aside0.mk (show Kd.V (Kd.int .u8) 5 _ w.heap.size _ _ (rd_L1 l0 x8_1) from Kd.V_mk ul341_0 ge341_0)
 clear hva_ hvn_ hvc_ ge341_0 ul341_0
 clear hcc341 hce341
 have HR341_0 := Aside0.mk hi341_0
 have HC341_0 := Aside0.mk hl341_0
 clear hi341_0 hl341_0
 replace p341 := eq_true p341
 replace q341 := eq_true q341
 go_wp2_with (first | ((with_reducible refine asz (b := .append) (xs := #[.tmp 19, .tmp 24]) rfl ?_); at_builtin; refine Kd.N_append (Kd.slice 5 (Kd.int .u8)) (w0 := w) w.heap.size rfl (.tmp 19) (.tmp 24) 24 34 (.slice none 0 0) 24 rfl Tryz.underlying24 info34 rfl (by decide) (by omega) u7 x7_1 (rd_L1 l0 x8_1) [.slice A341_0 (rd_L1 l0 x8_1).length c341_0] (fun k_ => (P0_ k_ ∨ w.heap.size ≤ k_)) (fun k_ => ((fun k_ => (P0_ k_ ∨ w.heap.size ≤ k_))) k_ ∧ some k_ ≠ (u7 : Value).ownBlock) rfl rfl ?aP (fun _ hk => hk) ?aF ?aO ?aB ?aS ?aL ?_; (case aP => exact (Kd.FK_slice_mk (Kd.duz (Kd.V_mono (ok' := (fun k_ => ((fun k_ => (P0_ k_ ∨ w.heap.size ≤ k_))) k_ ∧ some k_ ≠ (u7 : Value).ownBlock)) (HL341_0.out) (fun k_ hk => ⟨hk.1, hk.2⟩))).2.1 (Kd.V_F (Kd.V_mono (ok' := (fun k_ => ((fun k_ => (P0_ k_ ∨ w.heap.size ≤ k_))) k_ ∧ some k_ ≠ (u7 : Value).ownBlock)) (HL341_0.out) (fun k_ hk => ⟨hk.1, hk.2⟩))))); (case aB => exact bl_); (case aF => exact (fun k_ hk => (.inr (Nat.le_trans (aNz bl_) hk)))); (case aO => exact (xd_ HO_7.out)); (case aS => exact (aNz bl_)); (case aL => have := LMc9.out; omega); intro v343 w10 ho hb hg hat; rw [← Ny342.out] at ho; have n_ := And.intro (Aside0.mk (Kd.V_afterv (ok := (fun k_ => (P0_ k_ ∨ w.heap.size ≤ k_))) (xd_ HO_0.out) hg hat)) (And.intro (Aside0.mk (Kd.V_afterv (ok := (fun k_ => (P0_ k_ ∨ w.heap.size ≤ k_))) (by (with_reducible repeat (first | apply Kd.V_alloc | apply Kd.V_drewN | apply Kd.V_drew)); exact HL341_0.out) hg hat)) (And.intro (Aside0.mk (hb)) (Aside0.mk (ho)))); clear HO_0 HL341_0 HB HO_7; obtain ⟨HO_0, HL341_0, HB, HO344⟩ := n_; clear ho hb hg hat))
 go_roundg k1
 case measure => have := HK1.out; omega
 case rel => exact ⟨(y342), (wrap64 (x8_1 + 1)), sd_, H', ⟨by have := HK1.out; omega⟩, ⟨xd_ HO_0.out⟩, ⟨xd_ HO344.out⟩, ⟨bl_⟩⟩
theorem C_numsF {k : IntKind} {w : World} {g : Nat} {t : TypeId} {xs : List Int} {fr : Nat × Nat} (h : w.heap[g]? = some (.cells (nums k xs).toArray t fr)) (hl : xs.length ≤ 9223372036854775807) : Kd.C (Kd.int k) w (some ⟨g, 0, none⟩) xs.length xs := by
 refine ⟨rfl, hl, fun _ => ⟨_, rfl, fun j p hp => ⟨[.int k p], rfl, rfl, fun i u hu => ?_⟩⟩⟩
 obtain ⟨hj, rfl⟩ := List.getElem?_eq_some_iff.1 hp
 cases i with
 | succ i => simp at hu
 | zero =>
  obtain rfl : Value.int k xs[j] = u := by simpa using hu
  have e : (⟨g, 0, none⟩ : Addr).add (j * (Kd.int k).sz + 0) = ⟨g, j, none⟩ := by
   show (⟨g, 0, none⟩ : Addr).add (j * 1 + 0) = _
   unfold Addr.add
   split <;> simp_all
  rw [e, cell_of_row w g j _ t fr h]
  simp [nums, hj]
def bGz.f (a0_0 : Int) (a0_1 : Int) (a0_2 : Int) (l1 : List (List Int)) : Option (Bool) := (aiz.f a0_0 a0_1 a0_2).bind fun t279 => (if t279 = true then (some ((l1.length : Int) == (wrap64 (a0_1 + a0_2)))) else (some false))
set_option maxHeartbeats 8000000 in
set_option maxRecDepth 100000 in
theorem bGz.calls (a0_0 : Int) (a0_1 : Int) (a0_2 : Int) (A1 : Option Addr) (c1 : Nat) (l1 : List (List Int)) (r : Bool) (w : World) (hr1 : Kd.C (Kd.slice 5 (Kd.int .u8)) w A1 l1.length l1) (hc1 : l1.length ≤ c1) (h : bGz.f a0_0 a0_1 a0_2 l1 = some r) :
  Calls Tryz.prog 57 #[.agg #[.int .i64 a0_0, .int .i64 a0_1, .int .i64 a0_2], .slice A1 l1.length c1] w fun e w' => e = .returned (.bool r) ∧ Below w.heap.size w w' := by
 have hu23 := Tryz.underlying23
 have HR1 := Aside0.mk hr1
 have HC1 := Aside0.mk hc1
 clear hr1 hc1
 have HB := Aside0.mk (Below.refl w.heap.size w)
 have H := h
 clear h
 unfold bGz.f at H
 obtain ⟨t279, A3, H⟩ := ob_ H
 (try dsimp only at H)
 by_cases c4 : t279 = true
 ·subst c4
  rw [if_pos rfl] at H
  obtain rfl := Option.some.inj H
  go_enter Tryz.func57, Tryz.ntmps57
  go_wp2_with (first | ((with_reducible refine ayz (N := 2) rfl ?_); (try (refine bDz (by rfl) ?_; dsimp only)); refine bx_ 2 #[.int .i64 a0_0, .int .i64 a0_1, .int .i64 a0_2] 23 ?_; intro gb278 hg w5 hbox hb; have n_ := And.intro (hs_ HB hb) (And.intro (Aside0.mk (hbox)) (And.intro (ag_ HB gb278) (ag_ HB gb278))); clear HB; obtain ⟨HB, BK278, GW278, GE278⟩ := n_; clear hb hbox hg; obtain ⟨hcz6_0, hfz6_0, hcz6_1, hfz6_1, hcz6_2, hfz6_2⟩ := bc3_ BK278.out) | ((with_reducible refine aoz (f := 41) rfl ?_); refine gl_ (some 6) Tryz.func41 #[.agg #[.int .i64 a0_0, .int .i64 a0_1, .int .i64 a0_2]] ?_; (with_reducible refine (aiz.calls a0_0 a0_1 a0_2 true _ A3.out).mono ?_); rintro e w7 ⟨rfl, hb⟩; refine ⟨_, rfl, ?_⟩; have n_ := And.intro (bb_ BK278 hb) (hs_ HB hb); clear BK278 HB; obtain ⟨BK278, HB⟩ := n_; (try clear hb); obtain ⟨hcz8_0, hfz8_0, hcz8_1, hfz8_1, hcz8_2, hfz8_2⟩ := bc3_ BK278.out))
  go_ret
  exact ⟨er_, bl_⟩
 ·replace c4 := Bool.eq_false_iff.mpr c4
  subst c4
  rw [if_neg (show ¬ (false = true) by decide)] at H
  obtain rfl := Option.some.inj H
  go_enter Tryz.func57, Tryz.ntmps57
  go_wp2_with (first | ((with_reducible refine ayz (N := 2) rfl ?_); (try (refine bDz (by rfl) ?_; dsimp only)); refine bx_ 2 #[.int .i64 a0_0, .int .i64 a0_1, .int .i64 a0_2] 23 ?_; intro gb278 hg w9 hbox hb; have n_ := And.intro (hs_ HB hb) (And.intro (Aside0.mk (hbox)) (And.intro (ag_ HB gb278) (ag_ HB gb278))); clear HB; obtain ⟨HB, BK278, GW278, GE278⟩ := n_; clear hb hbox hg; obtain ⟨hcz10_0, hfz10_0, hcz10_1, hfz10_1, hcz10_2, hfz10_2⟩ := bc3_ BK278.out) | ((with_reducible refine aoz (f := 41) rfl ?_); refine gl_ (some 6) Tryz.func41 #[.agg #[.int .i64 a0_0, .int .i64 a0_1, .int .i64 a0_2]] ?_; (with_reducible refine (aiz.calls a0_0 a0_1 a0_2 false _ A3.out).mono ?_); rintro e w11 ⟨rfl, hb⟩; refine ⟨_, rfl, ?_⟩; have n_ := And.intro (bb_ BK278 hb) (hs_ HB hb); clear BK278 HB; obtain ⟨BK278, HB⟩ := n_; (try clear hb)))
  go_ret
  exact ⟨er_, bl_⟩
def cSz.f (a0_0 : Int) (a0_1 : Int) (a0_2 : Int) (l1 : List Int) : Option (Bool) := (avz.f a0_0).bind fun bt281 => (if bt281.2.1 = 16 then (some (((l1.length : Int) % 2) == 0)) else (some true))
set_option maxHeartbeats 8000000 in
set_option maxRecDepth 100000 in
theorem cSz.calls (a0_0 : Int) (a0_1 : Int) (a0_2 : Int) (A1 : Option Addr) (c1 : Nat) (l1 : List Int) (r : Bool) (w : World) (hr1 : Kd.C (Kd.int .u8) w A1 l1.length l1) (hc1 : l1.length ≤ c1) (h : cSz.f a0_0 a0_1 a0_2 l1 = some r) :
  Calls Tryz.prog 59 #[.agg #[.int .i64 a0_0, .int .i64 a0_1, .int .i64 a0_2], .slice A1 l1.length c1] w fun e w' => e = .returned (.bool r) ∧ Below w.heap.size w w' := by
 have hu23 := Tryz.underlying23
 have hu109 := Tryz.underlying109
 have HR1 := Aside0.mk hr1
 have HC1 := Aside0.mk hc1
 clear hr1 hc1
 have HB := Aside0.mk (Below.refl w.heap.size w)
 have H := h
 clear h
 unfold cSz.f at H
 obtain ⟨⟨t281, t282, t283, t284, t285, t286⟩, A3, H⟩ := ob_ H
 (try dsimp only at H)
 by_cases c4 : t282 = 16
 ·rw [if_pos c4] at H
  have c4b0 : (t282 == 16) = true := beq_iff_eq.mpr c4
  have c4b1 : (t282 != 16) = false := bne_eq_false_iff_eq.mpr c4
  clear c4
  obtain rfl := Option.some.inj H
  go_enter Tryz.func59, Tryz.ntmps59
  go_wp2_with (first | ((with_reducible refine ayz (N := 2) rfl ?_); (try (refine bDz (by rfl) ?_; dsimp only)); refine bx_ 2 #[.int .i64 a0_0, .int .i64 a0_1, .int .i64 a0_2] 23 ?_; intro gb280 hg w5 hbox hb; have n_ := And.intro (hs_ HB hb) (And.intro (Aside0.mk (hbox)) (And.intro (ag_ HB gb280) (ag_ HB gb280))); clear HB; obtain ⟨HB, BK280, GW280, GE280⟩ := n_; clear hb hbox hg; obtain ⟨hcz6_0, hfz6_0, hcz6_1, hfz6_1, hcz6_2, hfz6_2⟩ := bc3_ BK280.out) | ((with_reducible refine aoz (f := 75) rfl ?_); refine gl_ (some 10) Tryz.func75 #[.int .i64 a0_0] ?_; (with_reducible refine (avz.calls a0_0 t281 t282 t283 t284 t285 t286 _ A3.out).mono ?_); rintro e w7 ⟨rfl, hb⟩; refine ⟨_, rfl, ?_⟩; have n_ := And.intro (bb_ BK280 hb) (hs_ HB hb); clear BK280 HB; obtain ⟨BK280, HB⟩ := n_; (try clear hb)) | ((with_reducible refine ayz (N := 5) rfl ?_); (try (refine bDz (by rfl) ?_; dsimp only)); refine aYz ?hg (N := 5) ?hd (cs := #[.string (⟨#[]⟩ : ByteArray), .int .i64 0, .int .u32 0, .int .u8 0, .int .i64 0]) (t := 109) ?hr ?_; (case hd => rfl); (case hg => rfl); (case hr => first | (go_simp; done) | (go_simp; rfl)); intro gb287 hg w8 hbox hb; have n_ := And.intro (bb_ BK280 hb) (And.intro (hs_ HB hb) (And.intro (Aside0.mk (hbox)) (And.intro (ag_ HB gb287) (And.intro (ag_ HB gb287) (And.intro (n1_ BK280 gb287) (n2_ BK280 gb287)))))); clear BK280 HB; obtain ⟨BK280, HB, BK287, GW287, GE287, NB280_287, NB287_280⟩ := n_; clear hb hbox hg; have hnb9 := NB287_280.out; have hnc9 := NB280_287.out; obtain ⟨hcz10_0, hfz10_0, hcz10_1, hfz10_1, hcz10_2, hfz10_2, hcz10_3, hfz10_3, hcz10_4, hfz10_4⟩ := bc5_ BK287.out))
  go_ret
  exact ⟨er_, bl_⟩
 ·rw [if_neg c4] at H
  have c4b0 : (t282 == 16) = false := beq_eq_false_iff_ne.mpr c4
  have c4b1 : (t282 != 16) = true := bne_iff_ne.mpr c4
  obtain rfl := Option.some.inj H
  go_enter Tryz.func59, Tryz.ntmps59
  go_wp2_with (first | ((with_reducible refine ayz (N := 2) rfl ?_); (try (refine bDz (by rfl) ?_; dsimp only)); refine bx_ 2 #[.int .i64 a0_0, .int .i64 a0_1, .int .i64 a0_2] 23 ?_; intro gb280 hg w11 hbox hb; have n_ := And.intro (hs_ HB hb) (And.intro (Aside0.mk (hbox)) (And.intro (ag_ HB gb280) (ag_ HB gb280))); clear HB; obtain ⟨HB, BK280, GW280, GE280⟩ := n_; clear hb hbox hg; obtain ⟨hcz12_0, hfz12_0, hcz12_1, hfz12_1, hcz12_2, hfz12_2⟩ := bc3_ BK280.out) | ((with_reducible refine aoz (f := 75) rfl ?_); refine gl_ (some 10) Tryz.func75 #[.int .i64 a0_0] ?_; (with_reducible refine (avz.calls a0_0 t281 t282 t283 t284 t285 t286 _ A3.out).mono ?_); rintro e w13 ⟨rfl, hb⟩; refine ⟨_, rfl, ?_⟩; have n_ := And.intro (bb_ BK280 hb) (hs_ HB hb); clear BK280 HB; obtain ⟨BK280, HB⟩ := n_; (try clear hb)) | ((with_reducible refine ayz (N := 5) rfl ?_); (try (refine bDz (by rfl) ?_; dsimp only)); refine aYz ?hg (N := 5) ?hd (cs := #[.string (⟨#[]⟩ : ByteArray), .int .i64 0, .int .u32 0, .int .u8 0, .int .i64 0]) (t := 109) ?hr ?_; (case hd => rfl); (case hg => rfl); (case hr => first | (go_simp; done) | (go_simp; rfl)); intro gb287 hg w14 hbox hb; have n_ := And.intro (bb_ BK280 hb) (And.intro (hs_ HB hb) (And.intro (Aside0.mk (hbox)) (And.intro (ag_ HB gb287) (And.intro (ag_ HB gb287) (And.intro (n1_ BK280 gb287) (n2_ BK280 gb287)))))); clear BK280 HB; obtain ⟨BK280, HB, BK287, GW287, GE287, NB280_287, NB287_280⟩ := n_; clear hb hbox hg; have hnb15 := NB287_280.out; have hnc15 := NB280_287.out; obtain ⟨hcz16_0, hfz16_0, hcz16_1, hfz16_1, hcz16_2, hfz16_2, hcz16_3, hfz16_3, hcz16_4, hfz16_4⟩ := bc5_ BK287.out))
  go_ret
  exact ⟨er_, bl_⟩
end Go.Proofs.YtpdakdcmahlghaaGreat.XCo
end
section
namespace Go.Proofs.YtpdakdcmahlghaaGreat.XCo
open Go.RowKit Go.Proofs.YtpdakdcmahlghaaGreatW.PrintWords Go.Proofs.YtpdakdcmahlghaaGreatW.PrintLast Go.Proofs.YtpdakdcmahlghaaGreatW.PrintMore
attribute [local go_sem] aAz aBz aIz aJz atz auz aCz aDz
set_option linter.unusedVariables false
set_option linter.unusedSimpArgs false
attribute [local go_sem] Oper.semAt_some
def thereF : Nat → List (List Int) → List Bool → List (Nat × List Int)
 | i, b :: l, h :: hv => if h = true then (i, b) :: thereF (i + 1) l hv else thereF (i + 1) l hv
 | _, _, _ => []
abbrev ThX := Nat × Option Addr × Nat × List Int
def thK (x : ThX) : Nat × List Int := (x.1, x.2.2.2)
def HdT (T : List (Nat × List Int)) (ok : Nat → Prop) (m : Nat) (x : ThX) (W : World) : Prop := T[m]? = some (thK x) ∧ x.2.2.2.length ≤ x.2.2.1 ∧ Kd.F (Kd.int .u8) W ok x.2.1 x.2.2.2.length x.2.2.2
set_option maxRecDepth 100000 in
theorem there.calls (A A2 : Option Addr) (n c n2 c2 : Nat) (W : World) : Calls Tryz.prog 58 #[.slice A n c, .slice A2 n2 c2] W fun e w' => e = .returned (.func (.func 93) #[] #[.pointer (some ⟨W.heap.size, 0, none⟩), .pointer (some ⟨W.heap.size + 1, 0, none⟩)]) ∧ w' = (W.alloc (.cells #[.slice A n c] 24)).alloc (.cells #[.slice A2 n2 c2] 38) := by
 have hmf : ∀ (fn : Fn) (first cap : Array Value) (w : World), (Instr.makeFunc fn first cap).run Tryz.prog w = .ok (.func fn first cap) w := fun _ _ _ _ => rfl
 go_enter Tryz.func58, Tryz.ntmps58
 go_wp2
 go_ret
 exact ⟨by simp, rfl⟩
set_option maxRecDepth 100000 in
set_option maxHeartbeats 4000000 in
theorem there1_in (l bs bh N n cs ch : Nat) (ex : Nat → Prop) (A A2 : Option Addr) (sh : List (List Int)) (hv : List Bool) (W0 W : World) (J : List ThX → World → Prop)
  (hF : Kd.F (dM 5 .u8) W0 (fun k => ¬ ex k) A sh.length sh) (hH : Kd.F Kd.bool W0 (fun k => ¬ ex k) A2 hv.length hv) (hN : W0.heap.size ≤ N) (h0 : KpX N ex W0 W) (hl : sh.length = n) (hl2 : hv.length = n) (hn : n ≤ 100000) (hn1 : 1 ≤ n)
  (hBs : W.heap[bs]? = some (.cells #[.slice A n cs] 24 (0, 0))) (hBh : W.heap[bh]? = some (.cells #[.slice A2 n ch] 38 (0, 0))) (hbs : bs < N ∧ ¬ ex bs) (hbh : bh < N ∧ ¬ ex bh) (hJ : ∀ s X Y, J s X → X.grownBy Y none → J s Y)
  (hY : ∀ pre x W1, J pre W1 → HdT (thereF 0 sh hv) (fun k => ¬ ex k ∧ k < W0.heap.size) pre.length x W1 → pre.length < (thereF 0 sh hv).length → YieldAt Fence.wide (7 - 1) Tryz.prog l #[.int .i64 (x.1 : Int), .slice x.2.1 x.2.2.2.length x.2.2.1] W1 fun e W' => e = .returned (.bool true) ∧ J (pre ++ [x]) W' ∧ KpX N ex W1 W') (hJ0 : J [] W) :
  CallsIn Fence.wide 7 Tryz.prog 93 #[.func (.yield l) #[] #[], .pointer (some ⟨bs, 0, none⟩), .pointer (some ⟨bh, 0, none⟩)] W fun e W' => (∃ v, e = .returned v) ∧ ∃ xs : List ThX, xs.map thK = thereF 0 sh hv ∧ J xs W' := by
 obtain ⟨T, hT⟩ : ∃ T, thereF 0 sh hv = T := ⟨_, rfl⟩
 have hT0 : thereF 0 (sh.drop 0) (hv.drop 0) = T := hT
 have HFq := Aside0.mk (fun (W' : World) (hk : KpX N ex W0 W') => (Kd.bMz (W1 := W') (Kd.cWz hF) (fun k hk1 hk2 => hk.2 k (by omega) hk1.1)))
 have HHq := Aside0.mk (fun (W' : World) (hk : KpX N ex W0 W') => (Kd.bMz (W1 := W') (Kd.cWz hH) (fun k hk1 hk2 => hk.2 k (by omega) hk1.1)))
 have HBs := Aside0.mk (fun (W' : World) (hk : KpX N ex W W') => (hk.2 bs hbs.1 hbs.2).trans hBs)
 have HBh := Aside0.mk (fun (W' : World) (hk : KpX N ex W W') => (hk.2 bh hbh.1 hbh.2).trans hBh)
 obtain ⟨r0, hr0⟩ : ∃ r, sh[0]? = some r := ⟨_, List.getElem?_eq_getElem (by omega)⟩
 obtain ⟨ad, A1, c1, rfl, -, -, -⟩ := biz (Kd.F_now hF) 0 r0 hr0
 obtain ⟨ad2, rfl, -⟩ := Kd.doz (Kd.F_now hH) 0 (by omega) (by omega)
 rw [hT] at hY ⊢
 have HJ := Aside0.mk hJ
 have HY := Aside0.mk hY
 have HJ0 := Aside0.mk hJ0
 have H0 := Aside0.mk h0
 have HT0 := Aside0.mk hT0
 have HL := Aside0.mk hl
 have HL2 := Aside0.mk hl2
 have hbc : W.cell? ⟨bs, 0, none⟩ = some (.slice (some ad) n cs) := (aaz hBs 0).trans rfl
 rw [hl] at HFq
 rw [hl2] at HHq
 clear hF hH hN h0 hl hl2 hBs hBh hbs hbh hJ hY hJ0 hT hT0 hr0
 refine callsIn_of_wp Tryz.func93 rfl trivial ?_ rfl
 simp only [Tryz.ntmps93, List.size_toArray, List.length_cons, List.length_nil, Nat.reduceAdd, Nat.reduceSub, Array.replicate_succ, Array.replicate_zero, List.push_toArray, List.append_toArray, List.nil_append, List.cons_append]
 gi_wp2
 gi_loopw [8] (fun i wr => ∃ (k : Nat) (pre : List ThX), k ≤ n ∧ i = .int .i64 (k : Int) ∧ Aside0 (pre.map thK ++ thereF k (sh.drop k) (hv.drop k) = T) ∧ Aside0 (J pre wr) ∧ Aside0 (KpX N ex W wr)) (fun i _ => n - (intOf i).toNat)
 case atStart => exact ⟨0, [], Nat.zero_le _, rfl, HT0, HJ0, ⟨Nat.le_refl _, fun _ _ _ => rfl⟩⟩
 clear HJ0 hbc HT0
 obtain ⟨wq, rfl⟩ : ∃ wq, wq = wr := ⟨_, rfl⟩
 obtain ⟨k, pre, hk, rfl, HP, HJP, HK⟩ := hrel
 by_cases hlt : k < n
 ·obtain ⟨b, hb⟩ : ∃ x, sh[k]? = some x := ⟨_, List.getElem?_eq_getElem (by have := HL.out; omega)⟩
  obtain ⟨h, hh⟩ : ∃ x, hv[k]? = some x := ⟨_, List.getElem?_eq_getElem (by have := HL2.out; omega)⟩
  have hds : sh.drop k = b :: sh.drop (k + 1) := by
   obtain ⟨h1, h2⟩ := List.getElem?_eq_some_iff.1 hb
   rw [List.drop_eq_getElem_cons h1, h2]
  have hdh : hv.drop k = h :: hv.drop (k + 1) := by
   obtain ⟨h1, h2⟩ := List.getElem?_eq_some_iff.1 hh
   rw [List.drop_eq_getElem_cons h1, h2]
  have hp := HP.out
  rw [hds, hdh, thereF] at hp
  have hFs := HFq.out wq (H0.out.trans HK.out)
  rw [← HL.out] at hFs
  obtain ⟨A', c', e1, l1, FR⟩ := row_atF hFs k b hb
  obtain ⟨ad', he, e2⟩ := Kd.doz (Kd.F_now (HHq.out wq (H0.out.trans HK.out))) (k : Int) (by omega) (by omega)
  obtain rfl : ad2 = ad' := Option.some.inj he
  have hrd : rdOf false hv (k : Int) = h := by
   unfold rdOf
   rw [Int.toNat_natCast, List.getD_eq_getElem?_getD, hh]
   rfl
  rw [hrd, Int.toNat_natCast] at e2
  have q2 : wq.cell? ⟨bh, 0, none⟩ = some (.slice (some ad2) n ch) := (aaz (HBh.out _ HK.out) 0).trans rfl
  have HFR := Aside0.mk FR
  have HL1 := Aside0.mk l1
  have HPP := Aside0.mk hp
  have i1 : (0 : Int) ≤ (k : Int) := by omega
  have i2 : (k : Int) < (n : Int) := by omega
  obtain ⟨nb, hnb⟩ : ∃ nb, b.length = nb := ⟨_, rfl⟩
  have HNB := Aside0.mk hnb
  rw [hnb] at e1
  clear hb hh hds hdh hp hFs he hrd FR l1 hnb HP
  cases h with
  | false =>
   have hp2 := HPP.out
   rw [if_neg (by decide)] at hp2
   have HP2 := Aside0.mk hp2
   clear hp2 HPP
   gi_wp2
   refine ⟨(by intro f hf; cases hf), ?_⟩
   gi_wp2
   go_roundw
   case rel => exact ⟨k + 1, pre, by omega, by go_num, HP2, HJP, HK⟩
   case measure => simp [intOf]; omega
  | true =>
   have hp2 := HPP.out
   rw [if_pos rfl] at hp2
   have hTm : T[pre.length]? = some (k, b) := by
    rw [← hp2, List.getElem?_append_right (by simp)]
    simp
   have hTl : pre.length < T.length := (List.getElem?_eq_some_iff.1 hTm).1
   obtain ⟨fn, tmps, assign, body, hy, hR⟩ := HY.out pre (k, A', c', b) wq HJP.out ⟨hTm, HL1.out, HFR.out⟩ hTl
   dsimp only at hy
   rw [HNB.out] at hy
   have HRR := Aside0.mk hR
   have HP2 := Aside0.mk (show (pre ++ [((k, A', c', b) : ThX)]).map thK ++ thereF (k + 1) (sh.drop (k + 1)) (hv.drop (k + 1)) = T by
    rw [← hp2, List.map_append, List.append_assoc]
    rfl)
   clear hp2 hTm hTl hR HPP HFR
   gi_wp2
   refine HRR.out.mono ?_
   rintro e w3 ⟨rfl, hJ3, hk3⟩
   have HJ3 := Aside0.mk hJ3
   have HK3 := Aside0.mk hk3
   clear hy hJ3 hk3
   gi_wp2
   go_roundw
   case rel => exact ⟨k + 1, pre ++ [(k, A', c', b)], by omega, by go_num, HP2, HJ3, ⟨HK.out.trans HK3.out⟩⟩
   case measure => simp [intOf]; omega
 ·obtain rfl : k = n := by omega
  have hp := HP.out
  rw [List.drop_of_length_le (by have := HL.out; omega), thereF.eq_def] at hp
  have HPE := Aside0.mk (show pre.map thK = T by simpa using hp)
  clear hp
  gi_wp2
  go_end0
  exact ⟨⟨_, rfl⟩, pre, HPE.out, HJP.out⟩
theorem there_seq (bs bh N n cs ch : Nat) (ex : Nat → Prop) (A A2 : Option Addr) (sh : List (List Int)) (hv : List Bool) (W0 w : World)
  (hF : Kd.F (dM 5 .u8) W0 (fun k => ¬ ex k) A sh.length sh) (hH : Kd.F Kd.bool W0 (fun k => ¬ ex k) A2 hv.length hv) (hN : W0.heap.size ≤ N) (hNW : N ≤ w.heap.size) (h0 : KpX N ex W0 w) (hl : sh.length = n) (hl2 : hv.length = n) (hn : n ≤ 100000) (hn1 : 1 ≤ n)
  (hBs : w.heap[bs]? = some (.cells #[.slice A n cs] 24 (0, 0))) (hBh : w.heap[bh]? = some (.cells #[.slice A2 n ch] 38 (0, 0))) (hbs : bs < N ∧ ¬ ex bs) (hbh : bh < N ∧ ¬ ex bh) :
  SeqN Fence.wide 7 Tryz.prog 93 #[.pointer (some ⟨bs, 0, none⟩), .pointer (some ⟨bh, 0, none⟩)] (fun x : ThX => #[.int .i64 (x.1 : Int), .slice x.2.1 x.2.2.2.length x.2.2.1]) (HdT (thereF 0 sh hv) (fun k => ¬ ex k ∧ k < W0.heap.size)) (KpX N ex) (fun xs => xs.map thK = thereF 0 sh hv) (thereF 0 sh hv).length w := by
 intro l J W hW hJ hY hJ0
 have hk : KpX N ex w W := ⟨hW.size, fun k hk _ => hW.block k (by omega)⟩
 exact there1_in l bs bh N n cs ch ex A A2 sh hv W0 W J hF hH hN (h0.trans hk) hl hl2 hn hn1 ((hk.2 bs hbs.1 hbs.2).trans hBs) ((hk.2 bh hbh.1 hbh.2).trans hBh) hbs hbh hJ hY hJ0
end Go.Proofs.YtpdakdcmahlghaaGreat.XCo
end
