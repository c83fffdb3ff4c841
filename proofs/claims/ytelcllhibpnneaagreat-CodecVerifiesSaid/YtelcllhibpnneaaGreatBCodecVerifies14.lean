-- Joined by this work's own program (wip/tools/bundle.py) out of its texts: what this claim uses of them. Not trusted: Lean checks it.
import Derived.Lib.SlBytesConst
import Derived.Test.YtelcllhibpnneaaGreatBCodecVerifies13
section
namespace Go.Proofs.YtelcllhibpnneaaGreat.XCo
open Go.RowKit Go.Proofs.YtelcllhibpnneaaGreatW.PrintWords Go.Proofs.YtelcllhibpnneaaGreatW.PrintLast Go.Proofs.YtelcllhibpnneaaGreatW.PrintMore
attribute [local go_sem] aGz aHz aMz aNz aCz aDz aIz aJz
set_option linter.unusedVariables false
set_option linter.unusedSimpArgs false
def bgz.f (a0_0 : Int) (a0_1 : Int) (a0_2 : Int) : Option (Int × Int × Int) := (boz.f (wrap64 (1 + (Int.tmod (wrap64 (a0_0)) 6)))).bind fun bt611 => (if bt611.2.2.2.2.1 = 0 then (none) else (some (wrap64 (1 + (Int.tmod (wrap64 (a0_0)) 6)), wrap64 (1 + (Int.tmod (wrap64 (a0_1)) 8)), wrap64 (1 + (Int.tmod (wrap64 (a0_2)) bt611.2.2.2.2.1)))))
set_option maxHeartbeats 8000000 in
set_option maxRecDepth 100000 in
theorem bgz.calls (a0_0 : Int) (a0_1 : Int) (a0_2 : Int) (r1 : Int) (r2 : Int) (r3 : Int) (w : World) (h : bgz.f a0_0 a0_1 a0_2 = some (r1, r2, r3)) :
  Calls Tryz.prog 24 #[.agg #[.int .u8 a0_0, .int .u8 a0_1, .int .u8 a0_2]] w fun e w' => e = .returned (.agg #[.int .i64 r1, .int .i64 r2, .int .i64 r3]) ∧ Below w.heap.size w w' := by
 have hu38 := Tryz.underlying38
 have hu23 := Tryz.underlying23
 have hu72 := Tryz.underlying72
 have HB := Aside0.mk (Below.refl w.heap.size w)
 have H := h
 clear h
 unfold bgz.f at H
 obtain ⟨⟨t611, t612, t613, t614, t615, t616⟩, A2, H⟩ := ob_ H
 (try dsimp only at H)
 by_cases c3 : t615 = 0
 ·rw [if_pos c3] at H
  exact absurd H (by simp)
 ·rw [if_neg c3] at H
  have c3b0 : (t615 == 0) = false := beq_eq_false_iff_ne.mpr c3
  have c3b1 : (t615 != 0) = true := bne_iff_ne.mpr c3
  simp only [Option.some.injEq, Prod.mk.injEq] at H
  obtain ⟨rfl, rfl, rfl⟩ := H
  go_enter Tryz.func24, Tryz.ntmps24
  go_wp2_with (first | ((with_reducible refine ayz (N := 1) rfl ?_); refine bx_ 1 #[.int .u8 a0_0, .int .u8 a0_1, .int .u8 a0_2] 38 ?_; intro gb608 hg w4 hbox hb; have n_ := And.intro (hs_ HB hb) (And.intro (Aside0.mk (hbox)) (And.intro (ag_ HB gb608) (ag_ HB gb608))); clear HB; obtain ⟨HB, BK608, GW608, GE608⟩ := n_; clear hb hbox hg) | ((with_reducible refine ayz (N := 2) rfl ?_); refine bx_ 2 #[.int .i64 0, .int .i64 0, .int .i64 0] 23 ?_; intro gb609 hg w5 hbox hb; have n_ := And.intro (bb_ BK608 hb) (And.intro (hs_ HB hb) (And.intro (Aside0.mk (hbox)) (And.intro (ag_ HB gb609) (And.intro (ag_ HB gb609) (And.intro (n1_ BK608 gb609) (n2_ BK608 gb609)))))); clear BK608 HB; obtain ⟨BK608, HB, BK609, GW609, GE609, NB608_609, NB609_608⟩ := n_; clear hb hbox hg; have hnb6 := NB608_609.out; have hnc6 := NB609_608.out; obtain ⟨hcz7_0, hfz7_0, hcz7_1, hfz7_1, hcz7_2, hfz7_2⟩ := bc3_ BK608.out) | ((with_reducible refine ayz (N := 3) rfl ?_); refine bx_ 3 #[.int .i64 0, .int .i64 0, .int .i64 0] 23 ?_; intro gb610 hg w8 hbox hb; have n_ := And.intro (bb_ BK608 hb) (And.intro (bb_ BK609 hb) (And.intro (hs_ HB hb) (And.intro (Aside0.mk (hbox)) (And.intro (ag_ HB gb610) (And.intro (ag_ HB gb610) (And.intro (n1_ BK608 gb610) (And.intro (n2_ BK608 gb610) (And.intro (n1_ BK609 gb610) (n2_ BK609 gb610))))))))); clear BK608 BK609 HB; obtain ⟨BK608, BK609, HB, BK610, GW610, GE610, NB608_610, NB610_608, NB609_610, NB610_609⟩ := n_; clear hb hbox hg; have hnb9 := NB610_608.out; have hnc9 := NB608_610.out; have hnb10 := NB610_609.out; have hnc10 := NB609_610.out; obtain ⟨hcz11_0, hfz11_0, hcz11_1, hfz11_1, hcz11_2, hfz11_2⟩ := bc3_ BK610.out) | ((with_reducible refine ajz (f := 41) rfl ?_); refine gl_ (some 20) Tryz.func41 #[.int .i64 (wrap64 (1 + (Int.tmod (wrap64 (a0_0)) 6)))] ?_; (with_reducible refine (boz.calls (wrap64 (1 + (Int.tmod (wrap64 (a0_0)) 6))) t611 t612 t613 t614 t615 t616 _ A2.out).mono ?_); rintro e w12 ⟨rfl, hb⟩; refine ⟨_, rfl, ?_⟩; have n_ := And.intro (Aside0.mk (ahz (g := gb608) (o := .cells #[.int .u8 a0_0, .int .u8 a0_1, .int .u8 a0_2] 38 (0, 0)) (by (with_reducible repeat (first | refine aez ?_ _ | refine afz ?_ | refine adz ?_ _)); refine aqz ?_ NB608_610.out _; (with_reducible repeat (first | refine aez ?_ _ | refine afz ?_ | refine adz ?_ _)); refine aqz ?_ NB608_610.out _; (with_reducible repeat (first | refine aez ?_ _ | refine afz ?_ | refine adz ?_ _)); refine aqz ?_ NB608_610.out _; (with_reducible repeat (first | refine aez ?_ _ | refine afz ?_ | refine adz ?_ _)); exact BK608.out) hb)) (And.intro (Aside0.mk (ahz (g := gb609) (o := .cells #[.int .i64 0, .int .i64 0, .int .i64 0] 23 (0, 0)) (by (with_reducible repeat (first | refine aez ?_ _ | refine afz ?_ | refine adz ?_ _)); refine aqz ?_ NB609_610.out _; (with_reducible repeat (first | refine aez ?_ _ | refine afz ?_ | refine adz ?_ _)); refine aqz ?_ NB609_610.out _; (with_reducible repeat (first | refine aez ?_ _ | refine afz ?_ | refine adz ?_ _)); refine aqz ?_ NB609_610.out _; (with_reducible repeat (first | refine aez ?_ _ | refine afz ?_ | refine adz ?_ _)); exact BK609.out) hb)) (And.intro (Aside0.mk (ahz (g := gb610) (o := .cells #[.int .i64 (wrap64 (1 + (Int.tmod (wrap64 (a0_0)) 6))), .int .i64 (wrap64 (1 + (Int.tmod (wrap64 (a0_1)) 8))), .int .i64 0] 23 (0, 0)) (by (with_reducible repeat (first | refine aez ?_ _ | refine afz ?_ | refine adz ?_ _)); refine atz (cs := #[.int .i64 (wrap64 (1 + (Int.tmod (wrap64 (a0_0)) 6))), .int .i64 (wrap64 (1 + (Int.tmod (wrap64 (a0_1)) 8))), .int .i64 0]) ?_ 2 _ rfl; (with_reducible repeat (first | refine aez ?_ _ | refine afz ?_ | refine adz ?_ _)); refine atz (cs := #[.int .i64 (wrap64 (1 + (Int.tmod (wrap64 (a0_0)) 6))), .int .i64 0, .int .i64 0]) ?_ 1 _ rfl; (with_reducible repeat (first | refine aez ?_ _ | refine afz ?_ | refine adz ?_ _)); refine atz (cs := #[.int .i64 0, .int .i64 0, .int .i64 0]) ?_ 0 _ rfl; (with_reducible repeat (first | refine aez ?_ _ | refine afz ?_ | refine adz ?_ _)); exact BK610.out) hb)) (hs_ HB hb))); clear BK608 BK609 BK610 HB; obtain ⟨BK608, BK609, BK610, HB⟩ := n_; (try clear hb)) | ((with_reducible refine ayz (N := 4) rfl ?_); refine a3z ?hg (N := 4) ?hd (cs := #[.string (⟨#[]⟩ : ByteArray), .int .i64 0, .int .u32 0, .int .u8 0, .int .i64 0]) (t := 72) ?hr ?_; (case hd => rfl); (case hg => rfl); (case hr => first | (go_simp; done) | (go_simp; rfl)); intro gb617 hg w13 hbox hb; have n_ := And.intro (bb_ BK608 hb) (And.intro (bb_ BK609 hb) (And.intro (bb_ BK610 hb) (And.intro (hs_ HB hb) (And.intro (Aside0.mk (hbox)) (And.intro (ag_ HB gb617) (And.intro (ag_ HB gb617) (And.intro (n1_ BK608 gb617) (And.intro (n2_ BK608 gb617) (And.intro (n1_ BK609 gb617) (And.intro (n2_ BK609 gb617) (And.intro (n1_ BK610 gb617) (n2_ BK610 gb617)))))))))))); clear BK608 BK609 BK610 HB; obtain ⟨BK608, BK609, BK610, HB, BK617, GW617, GE617, NB608_617, NB617_608, NB609_617, NB617_609, NB610_617, NB617_610⟩ := n_; clear hb hbox hg; have hnb14 := NB617_608.out; have hnc14 := NB608_617.out; have hnb15 := NB617_609.out; have hnc15 := NB609_617.out; have hnb16 := NB617_610.out; have hnc16 := NB610_617.out; obtain ⟨hcz17_0, hfz17_0, hcz17_1, hfz17_1, hcz17_2, hfz17_2, hcz17_3, hfz17_3, hcz17_4, hfz17_4⟩ := bc5_ BK617.out; obtain ⟨hcz18_0, hfz18_0, hcz18_1, hfz18_1, hcz18_2, hfz18_2⟩ := bc3_ BK608.out; obtain ⟨hcz19_0, hfz19_0, hcz19_1, hfz19_1, hcz19_2, hfz19_2⟩ := bc3_ BK610.out; obtain ⟨hcz20_0, hfz20_0, hcz20_1, hfz20_1, hcz20_2, hfz20_2⟩ := bc3_ BK609.out))
  refine bodyPost_ret (results_cell_row rfl _ _ gb609 23 #[.int .i64 (wrap64 (1 + (Int.tmod (wrap64 (a0_0)) 6))), .int .i64 (wrap64 (1 + (Int.tmod (wrap64 (a0_1)) 8))), .int .i64 (wrap64 (1 + (Int.tmod (wrap64 (a0_2)) t615)))] (0, 0) _ rfl (by (with_reducible repeat (first | refine aez ?_ _ | refine afz ?_ | refine adz ?_ _)); refine atz (cs := #[.int .i64 (wrap64 (1 + (Int.tmod (wrap64 (a0_0)) 6))), .int .i64 (wrap64 (1 + (Int.tmod (wrap64 (a0_1)) 8))), .int .i64 0]) ?_ 2 _ rfl; (with_reducible repeat (first | refine aez ?_ _ | refine afz ?_ | refine adz ?_ _)); refine atz (cs := #[.int .i64 (wrap64 (1 + (Int.tmod (wrap64 (a0_0)) 6))), .int .i64 0, .int .i64 0]) ?_ 1 _ rfl; (with_reducible repeat (first | refine aez ?_ _ | refine afz ?_ | refine adz ?_ _)); refine atz (cs := #[.int .i64 0, .int .i64 0, .int .i64 0]) ?_ 0 _ rfl; (with_reducible repeat (first | refine aez ?_ _ | refine afz ?_ | refine adz ?_ _)); refine aqz ?_ NB609_610.out _; (with_reducible repeat (first | refine aez ?_ _ | refine afz ?_ | refine adz ?_ _)); refine aqz ?_ NB609_617.out _; (with_reducible repeat (first | refine aez ?_ _ | refine afz ?_ | refine adz ?_ _)); refine aqz ?_ NB609_617.out _; (with_reducible repeat (first | refine aez ?_ _ | refine afz ?_ | refine adz ?_ _)); refine aqz ?_ NB609_617.out _; (with_reducible repeat (first | refine aez ?_ _ | refine afz ?_ | refine adz ?_ _)); refine aqz ?_ NB609_617.out _; (with_reducible repeat (first | refine aez ?_ _ | refine afz ?_ | refine adz ?_ _)); refine aqz ?_ NB609_617.out _; (with_reducible repeat (first | refine aez ?_ _ | refine afz ?_ | refine adz ?_ _)); exact BK609.out) Tryz.underlying23 rfl kr_) rfl ?_
  exact ⟨er_, bl_⟩
def aiz.l0 : Nat → List Int → List Int → Int → Int → Option (Bool)
 | 0, _, _, _, _ => none
 | k + 1, x0, x1, x12, x13 => if x13 < x12 then (if 0 ≤ x13 then (if x13 < (x0.length : Int) then (if x13 < (x1.length : Int) then (if (rd x0 x13) = (rd x1 x13) then (aiz.l0 k x0 x1 x12 (wrap64 (x13 + 1))) else (some false)) else (none)) else (none)) else (none)) else (some true)
def aiz.f (k : Nat) (l0 : List Int) (l1 : List Int) : Option (Bool) := if (l0.length : Int) = (l1.length : Int) then (aiz.l0 k l0 l1 (l0.length : Int) 0) else (some false)
set_option maxHeartbeats 8000000 in
set_option maxRecDepth 100000 in
theorem aiz.calls (k : Nat) (A0 : Option Addr) (c0 : Nat) (l0 : List Int) (A1 : Option Addr) (c1 : Nat) (l1 : List Int) (r : Bool) (w : World) (hr0 : Kd.C (Kd.int .u8) w A0 l0.length l0) (hc0 : l0.length ≤ c0) (hr1 : Kd.C (Kd.int .u8) w A1 l1.length l1) (hc1 : l1.length ≤ c1) (h : aiz.f k l0 l1 = some r) :
  Calls Tryz.prog 46 #[.slice A0 l0.length c0, .slice A1 l1.length c1] w fun e w' => e = .returned (.bool r) ∧ Drawn0 w w' := by
 have HR0 := Aside0.mk hr0
 have HC0 := Aside0.mk hc0
 clear hr0 hc0
 have HR1 := Aside0.mk hr1
 have HC1 := Aside0.mk hc1
 clear hr1 hc1
 have H := h
 clear h
 unfold aiz.f at H
 by_cases c3 : (l0.length : Int) = (l1.length : Int)
 rotate_left
 ·rw [if_neg c3] at H
  have c3b0 : ((l0.length : Int) == (l1.length : Int)) = false := beq_eq_false_iff_ne.mpr c3
  have c3b1 : ((l0.length : Int) != (l1.length : Int)) = true := bne_iff_ne.mpr c3
  have c3b2 : (l0.length == l1.length) = false := by first | simpa using c3 | (simp at c3 ⊢; omega)
  obtain rfl := Option.some.inj H
  go_enter Tryz.func46, Tryz.ntmps46
  go_wp2
  repeat (go_quiet (fail); try go_wp2)
  go_ret
  exact ⟨sd_, dn_⟩
 rw [if_pos c3] at H
 have c3b0 : ((l0.length : Int) == (l1.length : Int)) = true := beq_iff_eq.mpr c3
 have c3b1 : ((l0.length : Int) != (l1.length : Int)) = false := bne_eq_false_iff_eq.mpr c3
 have c3b2 : (l0.length == l1.length) = true := by first | simpa using c3 | (simp at c3 ⊢; omega)
 clear c3
 have H' := Aside0.mk H
 clear H
 go_enter Tryz.func46, Tryz.ntmps46
 go_wp2
 repeat (go_quiet (fail); try go_wp2)
 go_loopg [13] k (fun kq v13 w' => ∃ (x13_1 : Int), v13 = .int .i64 x13_1 ∧ Aside0 (aiz.l0 kq l0 l1 (l0.length : Int) x13_1 = some r) ∧ Aside0 (kq ≤ k) ∧ Drawn0 w w')
 case atStart => exact ⟨(0), sd_, H', ⟨Nat.le_refl _⟩, dn_⟩
 clear H'
 clear c3b0 c3b1 c3b2
 obtain ⟨x13_1, rfl, HA, HK1, ⟨m1, rfl⟩⟩ := hrel
 rcases gk with _ | k1
 ·exact absurd HA.out (by simp [aiz.l0])
 have H := HA.out
 clear HA
 simp only [aiz.l0] at H
 by_cases c4 : x13_1 < (l0.length : Int)
 rotate_left
 ·rw [if_neg c4] at H
  have c4b0 := decide_eq_false c4
  clear c4
  obtain rfl := Option.some.inj H
  go_wp2
  repeat (go_quiet (fail); try go_wp2)
  go_ret
  exact ⟨sd_, dn_⟩
 rw [if_pos c4] at H
 have c4b0 := decide_eq_true c4
 clear c4
 by_cases c5 : 0 ≤ x13_1
 rotate_left
 ·rw [if_neg c5] at H
  exact absurd H (by simp)
 rw [if_pos c5] at H
 have c5b0 := decide_eq_true c5
 clear c5
 by_cases c6 : x13_1 < (l0.length : Int)
 rotate_left
 ·rw [if_neg c6] at H
  exact absurd H (by simp)
 rw [if_pos c6] at H
 have c6b0 := decide_eq_true c6
 clear c6
 by_cases c7 : x13_1 < (l1.length : Int)
 rotate_left
 ·rw [if_neg c7] at H
  exact absurd H (by simp)
 rw [if_pos c7] at H
 have c7b0 := decide_eq_true c7
 clear c7
 by_cases c8 : (rd l0 x13_1) = (rd l1 x13_1)
 rotate_left
 ·rw [if_neg c8] at H
  have c8b0 : ((rd l0 x13_1) == (rd l1 x13_1)) = false := beq_eq_false_iff_ne.mpr c8
  have c8b1 : ((rd l0 x13_1) != (rd l1 x13_1)) = true := bne_iff_ne.mpr c8
  obtain rfl := Option.some.inj H
  have p117 : 0 ≤ (x13_1 : Int) := of_decide_eq_true as_
  have q117 : x13_1 < (l0.length : Int) := of_decide_eq_true as_
  obtain ⟨ad117, e117, hx117_0⟩ := Kd.b2z HR0.out x13_1 p117 q117
  cases e117
  replace p117 := eq_true p117
  replace q117 := eq_true q117
  have p118 : 0 ≤ (x13_1 : Int) := of_decide_eq_true as_
  have q118 : x13_1 < (l1.length : Int) := of_decide_eq_true as_
  obtain ⟨ad118, e118, hx118_0⟩ := Kd.b2z HR1.out x13_1 p118 q118
  cases e118
  replace p118 := eq_true p118
  replace q118 := eq_true q118
  go_wp2
  repeat (go_quiet (fail); try go_wp2)
  go_ret
  exact ⟨sd_, dn_⟩
 rw [if_pos c8] at H
 have c8b0 : ((rd l0 x13_1) == (rd l1 x13_1)) = true := beq_iff_eq.mpr c8
 have c8b1 : ((rd l0 x13_1) != (rd l1 x13_1)) = false := bne_eq_false_iff_eq.mpr c8
 clear c8
 have H' := Aside0.mk H
 clear H
 have p117 : 0 ≤ (x13_1 : Int) := of_decide_eq_true as_
 have q117 : x13_1 < (l0.length : Int) := of_decide_eq_true as_
 obtain ⟨ad117, e117, hx117_0⟩ := Kd.b2z HR0.out x13_1 p117 q117
 cases e117
 replace p117 := eq_true p117
 replace q117 := eq_true q117
 have p118 : 0 ≤ (x13_1 : Int) := of_decide_eq_true as_
 have q118 : x13_1 < (l1.length : Int) := of_decide_eq_true as_
 obtain ⟨ad118, e118, hx118_0⟩ := Kd.b2z HR1.out x13_1 p118 q118
 cases e118
 replace p118 := eq_true p118
 replace q118 := eq_true q118
 go_wp2
 repeat (go_quiet (fail); try go_wp2)
 go_roundg k1
 case measure => have := HK1.out; omega
 case rel => exact ⟨(wrap64 (x13_1 + 1)), sd_, H', ⟨by have := HK1.out; omega⟩, dn_⟩
def eqRows (k : Nat) : List (List Int) → List (List Int) → Option Bool
 | [], [] => some true
 | x :: xs, y :: ys => (aiz.f k x y).bind fun b => if b = true then eqRows k xs ys else some false
 | _, _ => some false
def eqFunc (k : Nat) (p q : List (List Int)) : Option Bool := if p.length = q.length then (if p.length ≤ 1000000 then eqRows k p q else none) else some false
set_option maxRecDepth 100000 in
set_option maxHeartbeats 1600000 in
theorem eqFunc.calls (K : Nat) (A B : Option Addr) (ca cb : Nat) (p q : List (List Int)) (r : Bool) (W : World) (hA : Kd.C (dM 5 .u8) W A p.length p) (hB : Kd.C (dM 5 .u8) W B q.length q) (h : eqFunc K p q = some r) :
  Calls Tryz.prog 45 #[.slice A p.length ca, .slice B q.length cb, .func (.func 46) #[] #[]] W fun e w' => e = .returned (.bool r) ∧ Below W.heap.size W w' := by
 unfold eqFunc at h
 by_cases hl : p.length = q.length
 ·rw [if_pos hl] at h
  by_cases hsm : p.length ≤ 1000000
  ·rw [if_pos hsm] at h
   have HA := Aside0.mk hA
   have HBq := Aside0.mk hB
   obtain ⟨n, hn⟩ : ∃ n, q.length = n := ⟨_, rfl⟩
   have HN := Aside0.mk (show p.length = n ∧ q.length = n from ⟨hl.trans hn, hn⟩)
   have hnn : n ≤ 1000000 := by omega
   rw [hl, hn]
   have HR := Aside0.mk h
   have hself : ((n : Int) != (n : Int)) = false := by simp
   clear h hA hB hl hn
   go_enter Tryz.func45, Tryz.ntmps45
   go_wp2
   go_loopw [17] (fun iv wr => ∃ i : Nat, i ≤ n ∧ iv = .int .i64 (i : Int) ∧ Aside0 (Below W.heap.size W wr) ∧ Aside0 (eqRows K (p.drop i) (q.drop i) = some r)) (fun iv _ => n - (intOf iv).toNat)
   case atStart => exact ⟨0, Nat.zero_le _, rfl, ⟨Below.refl _ _⟩, ⟨by simpa using HR.out⟩⟩
   clear HR
   obtain ⟨w6, rfl⟩ : ∃ w6, w6 = wr := ⟨_, rfl⟩
   obtain ⟨i, hi, rfl, HB, HE⟩ := hrel
   by_cases hlt : i < n
   ·obtain ⟨x, hx⟩ : ∃ x, p[i]? = some x := ⟨_, List.getElem?_eq_getElem (by have := HN.out.1; omega)⟩
    obtain ⟨y, hy⟩ : ∃ y, q[i]? = some y := ⟨_, List.getElem?_eq_getElem (by have := HN.out.2; omega)⟩
    obtain ⟨a1, A1, c1, rfl, e1, l1, C1⟩ := a9z (Kd.auz HA.out HB.out) i x hx
    obtain ⟨a2, A2, c2, rfl, e2, l2, C2⟩ := a9z (Kd.auz HBq.out HB.out) i y hy
    have hd1 : p.drop i = x :: p.drop (i + 1) := by
     obtain ⟨h1, h2⟩ := List.getElem?_eq_some_iff.1 hx
     rw [List.drop_eq_getElem_cons h1, h2]
    have hd2 : q.drop i = y :: q.drop (i + 1) := by
     obtain ⟨h1, h2⟩ := List.getElem?_eq_some_iff.1 hy
     rw [List.drop_eq_getElem_cons h1, h2]
    have he := HE.out
    rw [hd1, hd2, eqRows] at he
    obtain ⟨b, hb, he⟩ := Option.bind_eq_some_iff.1 he
    have HC := Aside0.mk (aiz.calls K A1 c1 x A2 c2 y b w6 C1 l1 C2 l2 hb)
    have i1 : (0 : Int) ≤ (i : Int) := by omega
    have i2 : (i : Int) < (n : Int) := by omega
    have HE2 := Aside0.mk he
    clear hd1 hd2 hb he C1 C2 l1 l2 hx hy HE
    cases b with
    | true =>
     go_wp2_with fail
     refine HC.out.mono ?_
     rintro e w9 ⟨rfl, m9, rfl⟩
     have HB9 := Aside0.mk (akz HB.out m9)
     go_wp2
     go_roundw
     case rel => exact ⟨i + 1, by omega, by go_num, HB9, ⟨by simpa using HE2.out⟩⟩
     case measure => simp [intOf]; omega
    | false =>
     have HRR := Aside0.mk (show r = false by have := HE2.out; rw [if_neg (by decide)] at this; cases this; rfl)
     go_wp2_with fail
     refine HC.out.mono ?_
     rintro e w9 ⟨rfl, m9, rfl⟩
     have HB9 := Aside0.mk (akz HB.out m9)
     go_wp2
     go_ret
     exact ⟨by rw [HRR.out]; rfl, HB9.out⟩
   ·obtain rfl : i = n := by omega
    have HRR := Aside0.mk (show r = true by
     have := HE.out
     rw [List.drop_of_length_le (by rw [HN.out.1]; exact Nat.le_refl _), List.drop_of_length_le (by rw [HN.out.2]; exact Nat.le_refl _), eqRows] at this
     cases this; rfl)
    go_wp2
    go_ret
    exact ⟨by rw [HRR.out]; rfl, HB.out⟩
  ·rw [if_neg hsm] at h; cases h
 ·rw [if_neg hl] at h
  cases h
  have hne : ((p.length : Int) != (q.length : Int)) = true := by simpa using fun h => hl (by omega)
  generalize p.length = n1 at hne ⊢
  generalize q.length = n2 at hne ⊢
  clear hA hB hl
  go_enter Tryz.func45, Tryz.ntmps45
  go_wp2
  go_ret
  exact ⟨rfl, Below.refl _ _⟩
def anz.f (k : Nat) (a0_0 a0_1 a0_2 : Int) (l1 : List (List Int)) : Option Bool :=
 (agz.f a0_0 a0_1 a0_2).bind fun b => if b = true then (if (l1.length : Int) = a0_1 + a0_2 then ((amz.f k a0_0 a0_1 a0_2 (l1.take a0_1.toNat)).bind fun t => if t.2 = 0 then eqFunc k t.1 (l1.drop a0_1.toNat) else some false) else some false) else some false
theorem cut_to3 {P : Program} (t e : TypeId) {i : TypeInfo} (ht : P.underlying t = some (.slice e)) (hi : P.info? e = some i) (A : Option Addr) (n c j : Nat) (hm : j ≤ n) (hc : n ≤ c) :
  ∀ W : World, (Instr.slice t (.slice A n c) none (some (.int .i64 (j : Int))) (some (.int .i64 (j : Int)))).run P W = .ok (.slice A j j) W := by
 intro W
 have hel : P.elem t = e := by simp [Program.elem, ht]
 have hu : P.underlying t = some (.slice (P.elem t)) := by rw [hel]; exact ht
 have ha : (A.map fun x => x.add 0) = A := by cases A <;> simp [Addr.add]
 have h1 : (j : Int) ≤ (c : Int) := by omega
 simp [Instr.slice, run_underlying hu, Instr.sliceBounds, run_sliceBound, h1, hel, sizeOf, typeInfo, hi, sliced, Result.andThen, ha]
set_option maxRecDepth 100000 in
set_option maxHeartbeats 1600000 in
theorem anz.nomay (a0_0 a0_1 a0_2 : Int) (A1 : Option Addr) (c1 n : Nat) (w : World) (h : agz.f a0_0 a0_1 a0_2 = some false) :
  Calls Tryz.prog 20 #[.agg #[.int .i64 a0_0, .int .i64 a0_1, .int .i64 a0_2], .slice A1 n c1] w fun e w' => e = .returned (.bool false) ∧ Below w.heap.size w w' := by
 have HM := Aside0.mk (fun w => agz.calls a0_0 a0_1 a0_2 false w h)
 have hu := Tryz.underlying23
 have HB := Aside0.mk (acz (Below.refl w.heap.size w) (.cells #[.int .i64 a0_0, .int .i64 a0_1, .int .i64 a0_2] 23))
 clear h
 go_enter Tryz.func20, Tryz.ntmps20
 go_wp2_with fail
 generalize w.alloc (.cells #[.int .i64 a0_0, .int .i64 a0_1, .int .i64 a0_2] 23) = w0 at HB ⊢
 refine (HM.out w0).mono ?_
 rintro e w1 ⟨rfl, hB1⟩
 have HB1 := Aside0.mk (HB.out.trans (hB1.mono HB.out.size))
 clear hB1
 go_wp2
 go_ret
 exact ⟨rfl, HB1.out⟩
set_option maxRecDepth 100000 in
set_option maxHeartbeats 1600000 in
theorem anz.nolen (a0_0 a0_1 a0_2 : Int) (A1 : Option Addr) (c1 n : Nat) (w : World) (h : agz.f a0_0 a0_1 a0_2 = some true) (hk : 1 ≤ a0_1 ∧ a0_1 ≤ 1000 ∧ 1 ≤ a0_2 ∧ a0_2 ≤ 1000) (hn : (n : Int) ≠ a0_1 + a0_2) :
  Calls Tryz.prog 20 #[.agg #[.int .i64 a0_0, .int .i64 a0_1, .int .i64 a0_2], .slice A1 n c1] w fun e w' => e = .returned (.bool false) ∧ Below w.heap.size w w' := by
 have HM := Aside0.mk (fun w => agz.calls a0_0 a0_1 a0_2 true w h)
 have hu := Tryz.underlying23
 have HB := Aside0.mk (acz (Below.refl w.heap.size w) (.cells #[.int .i64 a0_0, .int .i64 a0_1, .int .i64 a0_2] 23))
 have HX := Aside0.mk (heap_alloc_new w (.cells #[.int .i64 a0_0, .int .i64 a0_1, .int .i64 a0_2] 23))
 have hs : IntKind.i64.wrap (a0_1 + a0_2) = a0_1 + a0_2 := by rw [IntKind.wrap_i64]; omega
 have hne : ((n : Int) != a0_1 + a0_2) = true := by simpa using hn
 clear h hk hn
 go_enter Tryz.func20, Tryz.ntmps20
 go_wp2_with fail
 generalize w.alloc (.cells #[.int .i64 a0_0, .int .i64 a0_1, .int .i64 a0_2] 23) = w0 at HB HX ⊢
 refine (HM.out w0).mono ?_
 rintro e w1 ⟨rfl, hB1⟩
 have HB1 := Aside0.mk (HB.out.trans (hB1.mono HB.out.size))
 have HX1 := ahz HX.out hB1
 have q1 : w1.cell? ⟨w.heap.size, 1, none⟩ = some (.int .i64 a0_1) := (aaz HX1 1).trans rfl
 have q2 : w1.cell? ⟨w.heap.size, 2, none⟩ = some (.int .i64 a0_2) := (aaz HX1 2).trans rfl
 clear hB1 HX HX1
 go_wp2
 go_ret
 exact ⟨rfl, HB1.out⟩
set_option maxRecDepth 100000 in
set_option maxHeartbeats 1600000 in
theorem anz.go (k : Nat) (a0_0 : Int) (kk M n : Nat) (A1 : Option Addr) (c1 : Nat) (l1 t1 : List (List Int)) (t2 : Int) (r : Bool) (w : World) (h : agz.f a0_0 (kk : Int) (M : Int) = some true) (hk : 1 ≤ kk ∧ kk ≤ 1000 ∧ 1 ≤ M ∧ M ≤ 1000) (hn : n = kk + M) (hln : l1.length = n) (hc : n ≤ c1)
  (hr : Kd.C (dM 5 .u8) w A1 l1.length l1) (hp : amz.f k a0_0 (kk : Int) (M : Int) (l1.take kk) = some (t1, t2)) (he : t2 = 0 → eqFunc k t1 (l1.drop kk) = some r) (he2 : t2 ≠ 0 → r = false) :
  Calls Tryz.prog 20 #[.agg #[.int .i64 a0_0, .int .i64 (kk : Int), .int .i64 (M : Int)], .slice A1 n c1] w fun e w' => e = .returned (.bool r) ∧ Below w.heap.size w w' := by
 have HM := Aside0.mk (fun w => agz.calls a0_0 (kk : Int) (M : Int) true w h)
 have HE := Aside0.mk he
 have HE2 := Aside0.mk he2
 have HP := Aside0.mk hp
 have HR := Aside0.mk hr
 have HLN := Aside0.mk hln
 have hu := Tryz.underlying23
 have hu2 := Tryz.underlying24
 have HB := Aside0.mk (acz (Below.refl w.heap.size w) (.cells #[.int .i64 a0_0, .int .i64 (kk : Int), .int .i64 (M : Int)] 23))
 have HX := Aside0.mk (heap_alloc_new w (.cells #[.int .i64 a0_0, .int .i64 (kk : Int), .int .i64 (M : Int)] 23))
 have hs : IntKind.i64.wrap ((kk : Int) + (M : Int)) = ((kk + M : Nat) : Int) := by rw [IntKind.wrap_i64]; omega
 have hne : ((n : Int) != ((kk + M : Nat) : Int)) = false := by rw [hn]; simp
 have hKn : kk ≤ n := by omega
 clear h hk hn he he2 hp hr hln
 go_enter Tryz.func20, Tryz.ntmps20
 go_wp2_with fail
 generalize w.alloc (.cells #[.int .i64 a0_0, .int .i64 (kk : Int), .int .i64 (M : Int)] 23) = w0 at HB HX ⊢
 refine (HM.out w0).mono ?_
 rintro e w1 ⟨rfl, hB1⟩
 have HB1 := Aside0.mk (HB.out.trans (hB1.mono HB.out.size))
 have HX1 := Aside0.mk (ahz HX.out hB1)
 have q0 : w1.cell? ⟨w.heap.size, 0, none⟩ = some (.int .i64 a0_0) := (aaz HX1.out 0).trans rfl
 have q1 : w1.cell? ⟨w.heap.size, 1, none⟩ = some (.int .i64 (kk : Int)) := (aaz HX1.out 1).trans rfl
 have q2 : w1.cell? ⟨w.heap.size, 2, none⟩ = some (.int .i64 (M : Int)) := (aaz HX1.out 2).trans rfl
 have hinfo : (Tryz.prog.info? 34).map (fun i => i.size) = some 1 := by kernel_rfl
 obtain ⟨inf, hinf, hsz⟩ := Option.map_eq_some_iff.1 hinfo
 have hcut := cut_to3 (P := Tryz.prog) 24 34 hu2 hinf A1 n c1 kk hKn hc
 have htk : (l1.take kk).length = kk := by rw [List.length_take, HLN.out]; omega
 have HPA := Aside0.mk (show Calls Tryz.prog 17 #[.agg #[.int .i64 a0_0, .int .i64 (kk : Int), .int .i64 (M : Int)], .slice A1 kk kk] w1.drew _ from by
  have h1 := amz.calls k a0_0 (kk : Int) (M : Int) A1 kk (l1.take kk) t1 t2 w1.drew (Kd.C_take (Kd.auz HR.out HB1.out.drew) (by rw [HLN.out]; exact hKn)) (by omega) HP.out
  rw [htk] at h1
  exact h1)
 have hmo : Tryz.prog.follows .mixedOrders = true := by kernel_rfl
 have hdl : (l1.drop kk).length = n - kk := by rw [List.length_drop, HLN.out]
 have hcut2 := cut_from (P := Tryz.prog) 24 34 .i64 hu2 hinf 1 hsz A1 n c1 (kk : Int) (by omega) (by omega)
 have hdr := Kd.C_drop (m := kk) (c := c1) HR.out (by rw [HLN.out]; exact hKn) (by rw [HLN.out]; exact hc)
 rw [show (dM 5 .u8).sz = 1 from rfl, hdl] at hdr
 simp only [Int.toNat_natCast] at hcut2
 generalize (if c1 = kk then A1 else Option.map (fun x => x.add (kk * 1)) A1) = A4 at hcut2 hdr
 have HDR := Aside0.mk hdr
 have HDL := Aside0.mk hdl
 obtain ⟨c4, hc4⟩ : ∃ c4, c1 - kk = c4 := ⟨_, rfl⟩
 obtain ⟨n4, hn4⟩ : ∃ n4, n - kk = n4 := ⟨_, rfl⟩
 rw [hc4, hn4] at hcut2
 rw [hn4] at HDR HDL
 clear hB1 HX HB HM hinfo hinf htk HP hsz hdl hdr hc4 hn4
 go_wp2_with fail
 refine a5z (n := 13) (S := fun w' => w'.cell? ⟨w.heap.size, 0, none⟩ = some (.int .i64 a0_0) ∧ w'.cell? ⟨w.heap.size, 1, none⟩ = some (.int .i64 (kk : Int)) ∧ w'.cell? ⟨w.heap.size, 2, none⟩ = some (.int .i64 (M : Int))) (ds := []) (bA 13 0) kr_ rfl rfl ⟨q0, q1, q2⟩ (fun hHeld => ?_)
 refine pu_ 1 22 2 ?_
 refine pu_ 2 23 6 ?_
 refine pu_ 4 25 22 ?_
 refine tk_ 0 21 23 hHeld ?_
 refine tk_ 3 24 31 hHeld ?_
 refine tk_ 5 26 63 hHeld ?_
 refine pu_ 6 27 127 ?_
 refine one_ (i := 7) (N := some 28) (bA 13 255) rfl rfl kr_ (by decide) (fun K hK => ?_)
 refine goes_ Tryz.func17 kr_ rfl #[.agg #[.int .i64 a0_0, .int .i64 (kk : Int), .int .i64 (M : Int)], .slice A1 kk kk] (by rfl) rfl rfl am_ ?_
 with_reducible refine (HPA.out).mono ?_
 rintro e w2 ⟨v, rfl, p3, p4⟩
 refine ⟨_, rfl, ?_⟩
 have P3 := Aside0.mk p3
 have HB2 := Aside0.mk (HB1.out.drew.trans (p4.mono HB1.out.drew.size))
 have HX2 := Aside0.mk (ahz (show w1.drew.heap[w.heap.size]? = _ from HX1.out) p4)
 clear p3 p4
 refine hK.out _ _ ⟨(aaz HX2.out 0).trans rfl, (aaz HX2.out 1).trans rfl, (aaz HX2.out 2).trans rfl⟩ (fun hHeld => ?_)
 clear hK K
 refine norm_ (a' := ?_) ?_ ?_
 rotate_left
 ·show Act.put _ (some 28) _ = _
  simp only [Act.put, List.setIfInBounds_toArray, List.set_cons_zero, List.set_cons_succ, i64_w, i32_w]
  rfl
 refine pu_ 8 20 511 ?_
 refine pu_ 9 29 1023 ?_
 refine pu_ 10 30 2047 ?_
 refine pu_ 11 5 4095 ?_
 refine pu_ 12 6 8191 ?_
 refine done_ kr_ ?_
 have q1 : w2.cell? ⟨w.heap.size, 1, none⟩ = some (.int .i64 (kk : Int)) := hHeld.2.1
 obtain ⟨A2, c2, rfl, l2, C2⟩ := Kd.S_reads P3.out
 by_cases ht : t2 = 0
 ·subst ht
  have HEQ := Aside0.mk (show Calls Tryz.prog 45 #[.slice A2 t1.length c2, .slice A4 n4 c4, .func (.func 46) #[] #[]] w2 _ from by
   have h1 := eqFunc.calls k A2 A4 c2 c4 t1 (l1.drop kk) r w2 C2 (by have := Kd.auz HDR.out (HB2.out); rw [HDL.out]; exact this) (HE.out rfl)
   rw [HDL.out] at h1
   exact h1)
  generalize t1.length = m1 at HEQ l2 ⊢
  clear C2 P3 HPA
  go_wp2_with fail
  refine HEQ.out.mono ?_
  rintro e w3 ⟨rfl, q3⟩
  have HB3 := Aside0.mk (HB2.out.trans (q3.mono HB2.out.size))
  clear q3
  go_wp2
  go_ret
  exact ⟨by cases r <;> rfl, HB3.out⟩
 ·have hne2 : (t2 == 0) = false := by simpa using ht
  have HRR := Aside0.mk (HE2.out ht)
  generalize t1.length = m1 at l2 ⊢
  clear C2 P3 HPA
  go_wp2
  go_ret
  exact ⟨by rw [HRR.out]; rfl, HB2.out⟩
theorem anz.calls (k : Nat) (a0_0 : Int) (a0_1 : Int) (a0_2 : Int) (A1 : Option Addr) (c1 : Nat) (l1 : List (List Int)) (r : Bool) (w : World) (hr1 : Kd.C (Kd.slice 5 (Kd.int .u8)) w A1 l1.length l1) (hc1 : l1.length ≤ c1) (h : anz.f k a0_0 a0_1 a0_2 l1 = some r) :
 Calls Tryz.prog 20 #[.agg #[.int .i64 a0_0, .int .i64 a0_1, .int .i64 a0_2], .slice A1 l1.length c1] w fun e w' => e = .returned (.bool r) ∧ Below w.heap.size w w' := by
 unfold anz.f at h
 obtain ⟨b, hb⟩ := may_some a0_0 a0_1 a0_2
 rw [hb] at h
 simp only [Option.bind_some] at h
 cases b with
 | false =>
  rw [if_neg (by decide)] at h
  cases h
  exact anz.nomay a0_0 a0_1 a0_2 A1 c1 l1.length w hb
 | true =>
  rw [if_pos rfl] at h
  obtain ⟨p1, p2, k1, k2, m1, m2⟩ := bfz hb
  by_cases hl : (l1.length : Int) = a0_1 + a0_2
  ·rw [if_pos hl] at h
   obtain ⟨kk, rfl⟩ : ∃ kk : Nat, a0_1 = (kk : Int) := ⟨a0_1.toNat, by omega⟩
   obtain ⟨M, rfl⟩ : ∃ M : Nat, a0_2 = (M : Int) := ⟨a0_2.toNat, by omega⟩
   rw [Int.toNat_natCast] at h
   obtain ⟨⟨t1, t2⟩, hp, h⟩ := Option.bind_eq_some_iff.1 h
   exact anz.go k a0_0 kk M l1.length A1 c1 l1 t1 t2 r w hb (by omega) (by omega) rfl hc1 hr1 hp (fun ht => by dsimp only at h; rwa [if_pos ht] at h) (fun ht => by dsimp only at h; rw [if_neg ht] at h; cases h; rfl)
  ·rw [if_neg hl] at h
   cases h
   exact anz.nolen a0_0 a0_1 a0_2 A1 c1 l1.length w hb (by omega) hl
def bcz.f (_ : Nat) : Option (Bool) := some true
def awake11.b : List Int := [97, 98, 99, 100, 101, 102, 103, 104, 65, 66, 67, 68, 69, 70, 71, 72]
def awake11.l : List (List Int) := [[97, 98, 99, 100, 101, 102, 103, 104], [65, 66, 67, 68, 69, 70, 71, 72], [32, 32, 32, 32, 32, 32, 32, 32]]
theorem awake11.enc : bnz.f 199 1 2 1 awake11.b = some (awake11.l, 0) := by kernel_rfl
theorem awake11.ver : anz.f 199 1 2 1 awake11.l = some true := by kernel_rfl
theorem C_numsF {k : IntKind} {w : World} {g : Nat} {t : TypeId} {xs : List Int} {fr : Nat × Nat} (h : w.heap[g]? = some (.cells (nums k xs).toArray t fr)) (hl : xs.length ≤ 9223372036854775807) : Kd.C (Kd.int k) w (some ⟨g, 0, none⟩) xs.length xs := by
 refine ⟨rfl, hl, fun _ => ⟨_, rfl, fun j p hp => ⟨[.int k p], rfl, rfl, fun i u hu => ?_⟩⟩⟩
 obtain ⟨hj, rfl⟩ := List.getElem?_eq_some_iff.1 hp
 cases i with
 | succ i => simp at hu
 | zero =>
  obtain rfl : Value.int k xs[j] = u := by simpa using hu
  have e : (⟨g, 0, none⟩ : Addr).add (j * (Kd.int k).sz + 0) = ⟨g, j, none⟩ := by
   show (⟨g, 0, none⟩ : Addr).add (j * 1 + 0) = _
   unfold Addr.add
   split <;> simp_all
  rw [e, cell_of_row w g j _ t fr h]
  simp [nums, hj]
set_option maxRecDepth 100000 in
set_option maxHeartbeats 4000000 in
theorem bcz.calls (k : Nat) (r : Bool) (w : World) (h : bcz.f k = some r) :
 Calls Tryz.prog 15 #[] w fun e w' => e = .returned (.bool r) ∧ Below w.heap.size w w' := by
 obtain rfl : true = r := by injection h
 clear h
 have kc := fun (w : World) (C : Array Value) (n c : Nat) => Lib.run_convert_bytes_const (P := Tryz.prog) w 34 5 C n c Tryz.underlying34 Tryz.underlying5
 have HE := Aside0.mk (fun (W : World) (A : Option Addr) (hr : Kd.C (Kd.int .u8) W A awake11.b.length awake11.b) => bnz.calls 199 1 2 1 A 16 awake11.b awake11.l 0 W hr (by decide) awake11.enc)
 have HV := Aside0.mk (fun (W : World) (A : Option Addr) (c : Nat) (hr : Kd.C (Kd.slice 5 (Kd.int .u8)) W A awake11.l.length awake11.l) (hc : 3 ≤ c) => anz.calls 199 1 2 1 A c awake11.l true W hr hc awake11.ver)
 go_enter Tryz.func15, Tryz.ntmps15
 go_wp2_with fail
 refine (HE.out _ (some ⟨w.heap.size, 0, none⟩) (C_numsF (fr := (16, 17)) (heap_alloc_new _ _) (by decide))).mono ?_
 rintro e w1 ⟨v, rfl, q1, q2⟩
 have HB1 := Aside0.mk ((acz (Below.refl _ _) _).trans (q2.mono (by simp)) : Below w.heap.size w w1)
 obtain ⟨gg, c, rfl, -, -, -⟩ := Kd.N_form q1 (by decide)
 obtain ⟨-, hc, hC⟩ := Kd.a2z q1
 have HC := Aside0.mk hC
 obtain ⟨ad, A2, c2, he, e2, -, C2⟩ := a9z hC 2 [32, 32, 32, 32, 32, 32, 32, 32] rfl
 obtain rfl := Option.some.inj he
 rw [show (⟨gg, 0, none⟩ : Addr).add 2 = ⟨gg, 2, none⟩ by unfold Addr.add; split <;> simp_all] at e2
 clear he
 have hst := Kd.c2z (P := Tryz.prog) (c := c2) Tryz.underlying34 Tryz.underlying5 Tryz.underlying9 C2
 have hss : (strOfNums [32, 32, 32, 32, 32, 32, 32, 32] : ByteArray) = ⟨#[32, 32, 32, 32, 32, 32, 32, 32]⟩ := by kernel_rfl
 rw [hss] at hst
 have hl8 : ([32, 32, 32, 32, 32, 32, 32, 32] : List Int).length = 8 := rfl
 rw [hl8] at hst e2
 have hl3 : awake11.l.length = 3 := rfl
 have HV1 := Aside0.mk (HV.out w1 _ c HC.out hc)
 rw [hl3] at HV1 hc ⊢
 clear q1 q2 hC C2 HE HV kc hss
 go_wp2_with fail
 refine HV1.out.mono ?_
 rintro e w2 ⟨rfl, q2⟩
 have HB2 := Aside0.mk (HB1.out.trans (q2.mono HB1.out.size))
 clear q2
 go_wp2
 go_ret
 exact ⟨rfl, HB2.out⟩
def avz.l0 : Nat → Int → List Int → Int → Int → Option (Int)
 | 0, _, _, _, _ => none
 | k + 1, x3, x6, x7, x8 => if x8 < x7 then (if 0 ≤ x8 then (if x8 < (x6.length : Int) then (avz.l0 k (wrap64 ((wrap64 (256 * x3)) + (wrap64 (rd x6 x8)))) x6 x7 (wrap64 (x8 + 1))) else (none)) else (none)) else (some x3)
def avz.f (k : Nat) (l0 : List Int) : Option (Int) := avz.l0 k 0 l0 (l0.length : Int) 0
theorem avz.cIz : ∀ k, (∀ y0 y1 y2 y3, LeO (avz.l0 k y0 y1 y2 y3) (avz.l0 (k + 1) y0 y1 y2 y3))
 | 0 => fun _ _ _ _ r h => by simp [avz.l0] at h
 | k + 1 => by
  have ih0 := avz.cIz k
  ·intro y0 y1 y2 y3
   unfold avz.l0
   repeat' first
   | (with_reducible exact ih0 _ _ _ _)
   | (with_reducible exact LeO.refl _)
   | (with_reducible exact LeO.none _)
   | (with_reducible refine LeO.ite ?_ ?_)
   | (with_reducible refine LeO.bind ?_ (fun _ => ?_))
   | exact ih0 _ _ _ _
   | exact LeO.none _
   | refine LeO.ite ?_ ?_
   | refine LeO.bind ?_ (fun _ => ?_)
theorem avz.mono : ∀ a0 k, LeO (avz.f k a0) (avz.f (k + 1) a0) := by
 intro a0 k
 have ih0 := avz.cIz k
 unfold avz.f
 repeat' first
   | (with_reducible exact ih0 _ _ _ _)
   | (with_reducible exact LeO.refl _)
   | (with_reducible exact LeO.none _)
   | (with_reducible refine LeO.ite ?_ ?_)
   | (with_reducible refine LeO.bind ?_ (fun _ => ?_))
   | exact ih0 _ _ _ _
   | exact LeO.none _
   | refine LeO.ite ?_ ?_
   | refine LeO.bind ?_ (fun _ => ?_)
set_option maxHeartbeats 8000000 in
set_option maxRecDepth 100000 in
theorem avz.calls (k : Nat) (A0 : Option Addr) (c0 : Nat) (l0 : List Int) (r : Int) (w : World) (hr0 : Kd.C (Kd.int .u8) w A0 l0.length l0) (hc0 : l0.length ≤ c0) (h : avz.f k l0 = some r) :
  Calls Tryz.prog 67 #[.slice A0 l0.length c0] w fun e w' => e = .returned (.int .i64 r) ∧ Drawn0 w w' := by
 have HR0 := Aside0.mk hr0
 have HC0 := Aside0.mk hc0
 clear hr0 hc0
 have H := h
 clear h
 unfold avz.f at H
 have H' := Aside0.mk H
 clear H
 go_enter Tryz.func67, Tryz.ntmps67
 go_wp2
 go_loopg [3, 8] k (fun kq v3 v8 w' => ∃ (x3_1 : Int) (x8_1 : Int), v3 = .int .i64 x3_1 ∧ v8 = .int .i64 x8_1 ∧ Aside0 (avz.l0 kq x3_1 l0 (l0.length : Int) x8_1 = some r) ∧ Aside0 (kq ≤ k) ∧ Drawn0 w w')
 case atStart => exact ⟨(0), (0), sd_, sd_, H', ⟨Nat.le_refl _⟩, dn_⟩
 clear H'
 obtain ⟨x3_1, x8_1, rfl, rfl, HA, HK1, ⟨m1, rfl⟩⟩ := hrel
 rcases gk with _ | k1
 ·exact absurd HA.out (by simp [avz.l0])
 have H := HA.out
 clear HA
 simp only [avz.l0] at H
 by_cases c2 : x8_1 < (l0.length : Int)
 rotate_left
 ·rw [if_neg c2] at H
  have c2b0 := decide_eq_false c2
  clear c2
  obtain rfl := Option.some.inj H
  go_wp2
  go_ret
  exact ⟨sd_, dn_⟩
 rw [if_pos c2] at H
 have c2b0 := decide_eq_true c2
 clear c2
 by_cases c3 : 0 ≤ x8_1
 rotate_left
 ·rw [if_neg c3] at H
  exact absurd H (by simp)
 rw [if_pos c3] at H
 have c3b0 := decide_eq_true c3
 clear c3
 by_cases c4 : x8_1 < (l0.length : Int)
 rotate_left
 ·rw [if_neg c4] at H
  exact absurd H (by simp)
 rw [if_pos c4] at H
 have c4b0 := decide_eq_true c4
 clear c4
 have H' := Aside0.mk H
 clear H
 have p932 : 0 ≤ (x8_1 : Int) := of_decide_eq_true as_
 have q932 : x8_1 < (l0.length : Int) := of_decide_eq_true as_
 obtain ⟨ad932, e932, hx932_0⟩ := Kd.b2z HR0.out x8_1 p932 q932
 cases e932
 replace p932 := eq_true p932
 replace q932 := eq_true q932
 go_wp2
 go_roundg k1
 case measure => have := HK1.out; omega
 case rel => exact ⟨(wrap64 ((wrap64 (256 * x3_1)) + (wrap64 (rd l0 x8_1)))), (wrap64 (x8_1 + 1)), sd_, sd_, H', ⟨by have := HK1.out; omega⟩, dn_⟩
def alz.h (k : Nat) (p K M : Int) (data : List (List Int)) (n : Int) (rest : List Int) : Option (List Int × Int) :=
 if n < 0 ∨ 4096 < n ∨ (rest.length : Int) < n then some ([], 3)
 else (arz.f k p K M (rest.take n.toNat)).bind fun t => if t.2 = 0 then ((eqFunc k t.1 data).bind fun b => if b = true then some (rest.take n.toNat, 0) else some ([], 3)) else some ([], 3)
def alz.g (k : Nat) (p K M : Int) (data : List (List Int)) (n unit ahead : Int) : Option (List Int × Int) :=
 if (data.getD 0 []).length = 0 ∨ ((data.getD 0 []).length : Int) % unit ≠ 0 ∨ (data.flatten.length : Int) < ahead then some ([], 3)
 else if 0 < ahead then ((avz.f k (data.flatten.take ahead.toNat)).bind fun m => alz.h k p K M data m (data.flatten.drop ahead.toNat))
 else alz.h k p K M data n (data.flatten.drop ahead.toNat)
def alz.small (l : List (List Int)) : Bool := decide (l.flatten.length ≤ 1000000) && l.all fun r => decide (r.length ≤ 1000000)
def alz.f (k : Nat) (p K M : Int) (data : List (List Int)) (n : Int) : Option (List Int × Int) :=
 (agz.f p K M).bind fun b => if b = true then (if (data.length : Int) = K then (if alz.small data = true then (if data.any (fun x => (x.length : Int) != ((data.getD 0 []).length : Int)) = true then some ([], 1) else (aUz.f p K M).bind fun t => alz.g k p K M data n t.1 t.2) else none) else some ([], 1)) else some ([], 1)
theorem join1.calls (db : Nat) (A : Option Addr) (n c : Nat) (data : List (List Int)) (x : List Int) (A' : Option Addr) (c' : Nat) (W : World) (hb : W.cell? ⟨db, 0, none⟩ = some (.slice A n c)) (hn : data.length = n) (h0 : 0 < n) (hC : Kd.C (dM 5 .u8) W A data.length data) :
  Calls Tryz.prog 64 #[.slice A' x.length c', .pointer (some ⟨db, 0, none⟩)] W fun e w' => e = .returned (.bool ((x.length : Int) != ((data.getD 0 []).length : Int))) ∧ Drawn0 W w' := by
 obtain ⟨r0, hr0⟩ : ∃ r, data[0]? = some r := ⟨_, List.getElem?_eq_getElem (by omega)⟩
 obtain ⟨a1, A1, c1, rfl, e1, l1, C1⟩ := a9z hC 0 r0 hr0
 have hg : data.getD 0 [] = r0 := by rw [List.getD_eq_getElem?_getD, hr0]; rfl
 rw [hg]
 have hx0 : W.cell? a1 = some (.slice A1 r0.length c1) := by rwa [bTz] at e1
 generalize r0.length = L at hx0 l1 C1 ⊢
 generalize x.length = m
 have i2 : ((0 : Nat) : Int) < (n : Int) := by omega
 clear hn hC C1 hr0 hg l1 e1 h0
 go_enter Tryz.func64, Tryz.ntmps64
 go_wp2
 go_ret
 exact ⟨rfl, Drawn0.refl _⟩
set_option maxRecDepth 100000 in
set_option maxHeartbeats 1600000 in
theorem alz.nomay (p K M m : Int) (A1 : Option Addr) (c1 n : Nat) (w : World) (h : agz.f p K M = some false) :
  Calls Tryz.prog 33 #[.agg #[.int .i64 p, .int .i64 K, .int .i64 M], .slice A1 n c1, .int .i64 m] w fun e w' => e = .returned (.tuple #[.slice none 0 0, .int .i64 1]) ∧ Below w.heap.size w w' := by
 have HM := Aside0.mk (fun w => agz.calls p K M false w h)
 have hu := Tryz.underlying23
 have HB := Aside0.mk (acz (acz (Below.refl w.heap.size w) (.cells #[.int .i64 p, .int .i64 K, .int .i64 M] 23)) (.cells #[.slice A1 n c1] 24))
 clear h
 go_enter Tryz.func33, Tryz.ntmps33
 go_wp2_with fail
 generalize (w.alloc (.cells #[.int .i64 p, .int .i64 K, .int .i64 M] 23)).alloc (.cells #[.slice A1 n c1] 24) = w0 at HB ⊢
 refine (HM.out w0).mono ?_
 rintro e w1 ⟨rfl, hB1⟩
 have HB1 := Aside0.mk (HB.out.trans (hB1.mono HB.out.size))
 clear hB1
 go_wp2
 go_ret2
 exact ⟨rfl, HB1.out⟩
set_option maxRecDepth 100000 in
set_option maxHeartbeats 1600000 in
theorem alz.nolen (p K M m : Int) (A1 : Option Addr) (c1 n : Nat) (w : World) (h : agz.f p K M = some true) (hn : (n : Int) ≠ K) :
  Calls Tryz.prog 33 #[.agg #[.int .i64 p, .int .i64 K, .int .i64 M], .slice A1 n c1, .int .i64 m] w fun e w' => e = .returned (.tuple #[.slice none 0 0, .int .i64 1]) ∧ Below w.heap.size w w' := by
 have HM := Aside0.mk (fun w => agz.calls p K M true w h)
 have hu := Tryz.underlying23
 have HB := Aside0.mk (acz (acz (Below.refl w.heap.size w) (.cells #[.int .i64 p, .int .i64 K, .int .i64 M] 23)) (.cells #[.slice A1 n c1] 24))
 have HX := Aside0.mk (adz (bpz w (.cells #[.int .i64 p, .int .i64 K, .int .i64 M] 23)) (.cells #[.slice A1 n c1] 24))
 have HD := Aside0.mk (bpz (w.alloc (.cells #[.int .i64 p, .int .i64 K, .int .i64 M] 23)) (.cells #[.slice A1 n c1] 24))
 have hne : ((n : Int) != K) = true := by simpa using hn
 have hz : (w.alloc (.cells #[.int .i64 p, .int .i64 K, .int .i64 M] 23)).heap.size = w.heap.size + 1 := by simp
 rw [hz] at HD
 clear h hn hz
 go_enter Tryz.func33, Tryz.ntmps33
 go_wp2_with fail
 generalize (w.alloc (.cells #[.int .i64 p, .int .i64 K, .int .i64 M] 23)).alloc (.cells #[.slice A1 n c1] 24) = w0 at HB HX HD ⊢
 refine (HM.out w0).mono ?_
 rintro e w1 ⟨rfl, hB1⟩
 have HB1 := Aside0.mk (HB.out.trans (hB1.mono HB.out.size))
 have HX1 := ahz HX.out hB1
 have HD1 := ahz HD.out hB1
 have q1 : w1.cell? ⟨w.heap.size, 1, none⟩ = some (.int .i64 K) := (aaz HX1 1).trans rfl
 have q2 : w1.cell? ⟨w.heap.size + 1, 0, none⟩ = some (.slice A1 n c1) := (aaz HD1 0).trans rfl
 clear hB1 HX HX1 HD HD1
 go_wp2
 go_ret2
 exact ⟨rfl, HB1.out⟩
set_option maxRecDepth 100000 in
set_option maxHeartbeats 1600000 in
theorem alz.odd (p K M m : Int) (A1 : Option Addr) (c1 n : Nat) (data : List (List Int)) (w : World) (h : agz.f p K M = some true) (hn : data.length = n) (hK : (n : Int) = K) (h0 : 0 < n) (hn8 : n ≤ 1000) (hr : Kd.C (dM 5 .u8) w A1 data.length data)
  (ho : data.any (fun x => (x.length : Int) != ((data.getD 0 []).length : Int)) = true) :
  Calls Tryz.prog 33 #[.agg #[.int .i64 p, .int .i64 K, .int .i64 M], .slice A1 n c1, .int .i64 m] w fun e w' => e = .returned (.tuple #[.slice none 0 0, .int .i64 1]) ∧ Below w.heap.size w w' := by
 subst hK
 have HM := Aside0.mk (fun w => agz.calls p (n : Int) M true w h)
 have HR := Aside0.mk hr
 have HN := Aside0.mk hn
 have HO := Aside0.mk ho
 have hu := Tryz.underlying23
 have HB := Aside0.mk (acz (acz (Below.refl w.heap.size w) (.cells #[.int .i64 p, .int .i64 (n : Int), .int .i64 M] 23)) (.cells #[.slice A1 n c1] 24))
 have HX := Aside0.mk (adz (bpz w (.cells #[.int .i64 p, .int .i64 (n : Int), .int .i64 M] 23)) (.cells #[.slice A1 n c1] 24))
 have HD := Aside0.mk (bpz (w.alloc (.cells #[.int .i64 p, .int .i64 (n : Int), .int .i64 M] 23)) (.cells #[.slice A1 n c1] 24))
 have hself : ((n : Int) != (n : Int)) = false := by simp
 have hz : (w.alloc (.cells #[.int .i64 p, .int .i64 (n : Int), .int .i64 M] 23)).heap.size = w.heap.size + 1 := by simp
 have hmf : ∀ (fn : Fn) (first cap : Array Value) (w : World), (Instr.makeFunc fn first cap).run Tryz.prog w = .ok (.func fn first cap) w := fun _ _ _ _ => rfl
 rw [hz] at HD
 clear h hz hr hn ho
 go_enter Tryz.func33, Tryz.ntmps33
 go_wp2_with fail
 generalize (w.alloc (.cells #[.int .i64 p, .int .i64 (n : Int), .int .i64 M] 23)).alloc (.cells #[.slice A1 n c1] 24) = w0 at HB HX HD ⊢
 refine (HM.out w0).mono ?_
 rintro e w1 ⟨rfl, hB1⟩
 have HB1 := Aside0.mk (HB.out.trans (hB1.mono HB.out.size))
 have HX1 := Aside0.mk (ahz HX.out hB1)
 have HD1 := Aside0.mk (ahz HD.out hB1)
 have q1 : w1.cell? ⟨w.heap.size, 1, none⟩ = some (.int .i64 (n : Int)) := (aaz HX1.out 1).trans rfl
 have q2 : w1.cell? ⟨w.heap.size + 1, 0, none⟩ = some (.slice A1 n c1) := (aaz HD1.out 0).trans rfl
 have HCO := Aside0.mk (fun (m0 : Nat) => con_Join1.calls (fun x => (x.length : Int) != ((data.getD 0 []).length : Int)) (.pointer (some ⟨w.heap.size + 1, 0, none⟩)) A1 c1 data (w1.drewN m0) (Kd.aYz (Kd.auz HR.out HB1.out) m0) (by rw [HN.out]; omega) (fun m x A' c' _ _ _ => join1.calls (w.heap.size + 1) A1 n c1 data x A' c' _ ((aaz (aez (aez HD1.out m0) m) 0).trans rfl) HN.out h0 (Kd.aYz (Kd.aYz (Kd.auz HR.out HB1.out) m0) m)))
 rw [HO.out, HN.out] at HCO
 have HC0 := Aside0.mk (HCO.out 0)
 rw [World.drewN_zero] at HC0
 clear hB1 HX HX1 HD HD1 HCO
 go_wp2_with fail
 refine HC0.out.mono ?_
 rintro e w2 ⟨rfl, m2, rfl⟩
 have HB2 := Aside0.mk (akz HB1.out m2)
 go_wp2
 go_ret2
 exact ⟨rfl, HB2.out⟩
set_option maxRecDepth 100000 in
set_option maxHeartbeats 4000000 in
theorem alz.go (k : Nat) (p : Int) (n M L N unit ahead : Nat) (m m' : Int) (A1 : Option Addr) (c1 : Nat) (data : List (List Int)) (r1 : List Int) (r2 : Int) (w : World) (h : agz.f p (n : Int) (M : Int) = some true) (hn : data.length = n) (h0 : 0 < n) (hn8 : n ≤ 1000) (hr : Kd.C (dM 5 .u8) w A1 data.length data)
    (hsm : data.flatten.length ≤ 1000000) (ho : data.any (fun x => (x.length : Int) != ((data.getD 0 []).length : Int)) = false) (hL : (data.getD 0 []).length = L) (hN : data.flatten.length = N) (hru : aUz.f p (n : Int) (M : Int) = some ((unit : Int), (ahead : Int))) (hu1 : 1 ≤ unit) (hu2 : unit ≤ 100)
    (hL0 : L ≠ 0) (hLu : (L : Int) % (unit : Int) = 0) (hah : ahead ≤ N) (ht0 : ahead = 0 → m' = m) (ht1 : 0 < ahead → avz.f k (data.flatten.take ahead) = some m') (hres : alz.h k p (n : Int) (M : Int) data m' (data.flatten.drop ahead) = some (r1, r2)) :
    Calls Tryz.prog 33 #[.agg #[.int .i64 p, .int .i64 (n : Int), .int .i64 (M : Int)], .slice A1 n c1, .int .i64 m] w fun e w' => ∃ v, e = .returned (.tuple #[v, .int .i64 r2]) ∧ Kd.R (Kd.int .u8) 5 w' w.heap.size (fun _ => True) v r1 ∧ Below w.heap.size w w' := by
  have HM := Aside0.mk (fun w => agz.calls p (n : Int) (M : Int) true w h)
  have HRU := Aside0.mk (fun w => aUz.calls p (n : Int) (M : Int) (unit : Int) (ahead : Int) w hru)
  have HR := Aside0.mk hr
  have HN := Aside0.mk hn
  have HO := Aside0.mk ho
  have HSM := Aside0.mk hsm
  have HRES := Aside0.mk hres
  have HFL := Aside0.mk hN
  have HT0 := Aside0.mk ht0
  have HT1 := Aside0.mk ht1
  obtain ⟨r0, hr0⟩ : ∃ r, data[0]? = some r := ⟨_, List.getElem?_eq_getElem (by omega)⟩
  have hg : data.getD 0 [] = r0 := by rw [List.getD_eq_getElem?_getD, hr0]; rfl
  have HL := Aside0.mk (show r0.length = L by rw [← hg]; exact hL)
  have HR0 := Aside0.mk hr0
  have hu := Tryz.underlying23
  have hu34 := Tryz.underlying34
  have HB := Aside0.mk (acz (acz (Below.refl w.heap.size w) (.cells #[.int .i64 p, .int .i64 (n : Int), .int .i64 (M : Int)] 23)) (.cells #[.slice A1 n c1] 24))
  have HX := Aside0.mk (adz (bpz w (.cells #[.int .i64 p, .int .i64 (n : Int), .int .i64 (M : Int)] 23)) (.cells #[.slice A1 n c1] 24))
  have HD := Aside0.mk (bpz (w.alloc (.cells #[.int .i64 p, .int .i64 (n : Int), .int .i64 (M : Int)] 23)) (.cells #[.slice A1 n c1] 24))
  have hself : ((n : Int) != (n : Int)) = false := by simp
  have hz : (w.alloc (.cells #[.int .i64 p, .int .i64 (n : Int), .int .i64 (M : Int)] 23)).heap.size = w.heap.size + 1 := by simp
  have hmf : ∀ (fn : Fn) (first cap : Array Value) (w : World), (Instr.makeFunc fn first cap).run Tryz.prog w = .ok (.func fn first cap) w := fun _ _ _ _ => rfl
  have hinfo : (Tryz.prog.info? 5).map (fun i => i.size) = some 1 := by kernel_rfl
  obtain ⟨inf, hinf, hsz⟩ := Option.map_eq_some_iff.1 hinfo
  rw [hz] at HD
  have n0 : (0 : Int) < (n : Int) := by omega
  have l0 : ((L : Int) == 0) = false := by simpa using hL0
  have u0 : ((unit : Int) == 0) = false := by
    have : (unit : Int) ≠ 0 := by omega
    simpa using this
  have u1 : (0 : Int) < (unit : Int) := by omega
  have u2 : (unit : Int) ≤ 100 := by omega
  have lu : ((L : Int) % (unit : Int) != 0) = false := by rw [hLu]; rfl
  have lt : (Int.tmod (L : Int) (unit : Int) != 0) = false := by rw [Int.tmod_eq_emod_of_nonneg (by omega), hLu]; rfl
  have na : decide ((N : Int) < (ahead : Int)) = false := decide_eq_false (by omega)
  have na' : decide (N < ahead) = false := decide_eq_false (by omega)
  have hN2 : N ≤ 1000000 := by rw [← hN]; exact hsm
  clear h hz hr hn ho hsm hres hN ht0 ht1 hinfo hru hg hr0 hL hL0 hLu
  go_enter Tryz.func33, Tryz.ntmps33
  go_wp2_with fail
  generalize (w.alloc (.cells #[.int .i64 p, .int .i64 (n : Int), .int .i64 (M : Int)] 23)).alloc (.cells #[.slice A1 n c1] 24) = w0 at HB HX HD ⊢
  refine (HM.out w0).mono ?_
  rintro e w1 ⟨rfl, hB1⟩
  have HB1 := Aside0.mk (HB.out.trans (hB1.mono HB.out.size))
  have HX1 := Aside0.mk (ahz HX.out hB1)
  have HD1 := Aside0.mk (ahz HD.out hB1)
  have q1 : w1.cell? ⟨w.heap.size, 1, none⟩ = some (.int .i64 (n : Int)) := (aaz HX1.out 1).trans rfl
  have q2 : w1.cell? ⟨w.heap.size + 1, 0, none⟩ = some (.slice A1 n c1) := (aaz HD1.out 0).trans rfl
  have HCO := Aside0.mk (fun (m0 : Nat) => con_Join1.calls (fun x => (x.length : Int) != ((data.getD 0 []).length : Int)) (.pointer (some ⟨w.heap.size + 1, 0, none⟩)) A1 c1 data (w1.drewN m0) (Kd.aYz (Kd.auz HR.out HB1.out) m0) (by rw [HN.out]; omega) (fun m x A' c' _ _ _ => join1.calls (w.heap.size + 1) A1 n c1 data x A' c' _ ((aaz (aez (aez HD1.out m0) m) 0).trans rfl) HN.out h0 (Kd.aYz (Kd.aYz (Kd.auz HR.out HB1.out) m0) m)))
  rw [HO.out, HN.out] at HCO
  have HC0 := Aside0.mk (HCO.out 0)
  rw [World.drewN_zero] at HC0
  clear hB1 HX HD HCO HB HM HO
  go_wp2_with fail
  refine HC0.out.mono ?_
  rintro e w2 ⟨rfl, m2, rfl⟩
  have HB2 := Aside0.mk (akz HB1.out m2)
  have HX2 := Aside0.mk (aez HX1.out m2)
  have HD2 := Aside0.mk (aez HD1.out m2)
  clear q1 q2 HC0 HX1 HD1 HB1
  generalize w1.drewN m2 = w2 at HB2 HX2 HD2 ⊢
  have q0 : w2.cell? ⟨w.heap.size, 0, none⟩ = some (.int .i64 p) := (aaz HX2.out 0).trans rfl
  have q1 : w2.cell? ⟨w.heap.size, 1, none⟩ = some (.int .i64 (n : Int)) := (aaz HX2.out 1).trans rfl
  have q3 : w2.cell? ⟨w.heap.size, 2, none⟩ = some (.int .i64 (M : Int)) := (aaz HX2.out 2).trans rfl
  go_wp2_with fail
  refine (HRU.out w2).mono ?_
  rintro e w3 ⟨rfl, hB3⟩
  have HB3 := Aside0.mk (HB2.out.trans (hB3.mono HB2.out.size))
  have HX3 := Aside0.mk (ahz HX2.out hB3)
  have HD3 := Aside0.mk (ahz HD2.out hB3)
  have q2 : w3.cell? ⟨w.heap.size + 1, 0, none⟩ = some (.slice A1 n c1) := (aaz HD3.out 0).trans rfl
  have HCC := Aside0.mk (dDz.calls A1 c1 data w3 (Kd.auz HR.out HB3.out) (by rw [HN.out]; omega) HSM.out)
  rw [HN.out] at HCC
  clear q0 q1 q3 hB3 HX2 HD2 HB2 HRU
  go_wp2_with fail
  refine HCC.out.mono ?_
  rintro e w4 ⟨v4, rfl, hR4, hB4⟩
  have HB4 := Aside0.mk (HB3.out.trans (hB4.mono HB3.out.size))
  have HX4 := Aside0.mk (ahz HX3.out hB4)
  have HD4 := Aside0.mk (ahz HD3.out hB4)
  obtain ⟨A4, c4, rfl, l4, C4⟩ := Kd.b4z hR4
  rw [HFL.out] at l4 ⊢
  have HC4 := Aside0.mk C4
  obtain ⟨a1, Ar, cr, ea, e1, lr, -⟩ := a9z (Kd.auz HR.out HB4.out) 0 r0 HR0.out
  have ee : w4.cell? a1 = some (.slice Ar L cr) := by rw [bTz, HL.out] at e1; exact e1
  have q2 : w4.cell? ⟨w.heap.size + 1, 0, none⟩ = some (.slice A1 n c1) := (aaz HD4.out 0).trans rfl
  clear hB4 HX3 HD3 HB3 HCC hR4 C4 e1 lr
  subst ea
  have hcut := cut_from (P := Tryz.prog) 34 5 .i64 hu34 hinf 1 hsz A4 N c4 (ahead : Int) (by omega) (by omega)
  have hcut1 := cut_to (P := Tryz.prog) 34 5 .i64 hu34 hinf A4 N c4 (ahead : Int) (by omega) (by omega) l4
  have hdr := Kd.C_drop (m := ahead) (c := c4) HC4.out (by rw [HFL.out]; exact hah) (by rw [HFL.out]; exact l4)
  rw [show (Kd.int .u8).sz = 1 from rfl] at hdr
  simp only [Int.toNat_natCast] at hcut hcut1
  have HTK := Aside0.mk (Kd.C_take (m := ahead) HC4.out (by rw [HFL.out]; exact hah))
  have htl : (data.flatten.take ahead).length = ahead := by rw [List.length_take, HFL.out]; omega
  have hdl : (data.flatten.drop ahead).length = N - ahead := by rw [List.length_drop, HFL.out]
  rw [htl] at HTK
  rw [hdl] at hdr
  have HTL := Aside0.mk htl
  have HDL := Aside0.mk hdl
  generalize (if c4 = ahead then A4 else Option.map (fun x => x.add (ahead * 1)) A4) = A5 at hcut hdr
  have HDR := Aside0.mk hdr
  obtain ⟨c5, hc5⟩ : ∃ c5, c4 - ahead = c5 := ⟨_, rfl⟩
  obtain ⟨n5, hn5⟩ : ∃ n5, N - ahead = n5 := ⟨_, rfl⟩
  have l5 : n5 ≤ c5 := by omega
  rw [hc5, hn5] at hcut
  rw [hn5] at HDR HDL
  clear hdr htl hdl hc5
  have HN5 := Aside0.mk hn5
  clear hn5
  have HTO := Aside0.mk (fun (ha : 0 < ahead) => avz.calls k A4 c4 (data.flatten.take ahead) m' w4 (by rw [HTL.out]; exact HTK.out) (by rw [HTL.out]; omega) (HT1.out ha))
  rw [HTL.out] at HTO
  by_cases cbad : m' < 0 ∨ 4096 < m' ∨ (n5 : Int) < m'
  · have HE := Aside0.mk (show r1 = [] ∧ r2 = 3 by
      have := HRES.out
      unfold alz.h at this
      rw [HDL.out, if_pos cbad] at this
      cases this; exact ⟨rfl, rfl⟩)
    rcases (show (m' < 0) ∨ (¬ m' < 0 ∧ 4096 < m') ∨ (¬ m' < 0 ∧ ¬ 4096 < m' ∧ (n5 : Int) < m') by omega) with c1' | ⟨c1', c2'⟩ | ⟨c1', c2', c3'⟩
    all_goals
      try have d1 : decide (m' < 0) = true := decide_eq_true (by assumption)
      try have d1 : decide (m' < 0) = false := decide_eq_false (by assumption)
      try have d2 : decide (4096 < m') = true := decide_eq_true (by assumption)
      try have d2 : decide (4096 < m') = false := decide_eq_false (by assumption)
      try have d3 : decide ((n5 : Int) < m') = true := decide_eq_true (by assumption)
      clear c1'
      try clear c2'
      try clear c3'
      clear cbad
      rcases Nat.eq_zero_or_pos ahead with ha0 | ha0
      · have a0 : decide ((0 : Int) < (ahead : Int)) = false := decide_eq_false (by omega)
        have a0' : decide (0 < ahead) = false := decide_eq_false (by omega)
        obtain rfl := HT0.out ha0
        clear ha0
        go_wp2
        go_ret2
        exact ⟨_, by rw [HE.out.2]; rfl, by rw [HE.out.1]; exact Kd.R_nil _ _ _ _ _, HB4.out⟩
      · have a0 : decide ((0 : Int) < (ahead : Int)) = true := decide_eq_true (by omega)
        have a0' : decide (0 < ahead) = true := decide_eq_true (by omega)
        have HTC := Aside0.mk (HTO.out ha0)
        clear ha0
        go_wp2_with (first | (go_at_call 67; refine HTC.out.mono ?_; rintro e w5 ⟨rfl, m5, rfl⟩))
        go_ret2
        exact ⟨_, by rw [HE.out.2]; rfl, by rw [HE.out.1]; exact Kd.R_nil _ _ _ _ _, akz HB4.out m5⟩
  · obtain ⟨mT, rfl⟩ : ∃ mT : Nat, m' = (mT : Int) := ⟨m'.toNat, by omega⟩
    have d1 : decide ((mT : Int) < 0) = false := decide_eq_false (by omega)
    have d2 : decide (4096 < (mT : Int)) = false := decide_eq_false (by omega)
    have d2' : decide (4096 < mT) = false := decide_eq_false (by omega)
    have d3 : decide ((n5 : Int) < (mT : Int)) = false := decide_eq_false (by omega)
    have d3' : decide (n5 < mT) = false := decide_eq_false (by omega)
    have hmn : mT ≤ n5 := by omega
    have hm4 : mT ≤ 4096 := by omega
    have hres := HRES.out
    unfold alz.h at hres
    rw [HDL.out, if_neg cbad, Int.toNat_natCast] at hres
    obtain ⟨⟨t1, t2⟩, hsp, hres⟩ := Option.bind_eq_some_iff.1 hres
    have HSP := Aside0.mk hsp
    have HRS := Aside0.mk hres
    have hsl := cut_to (P := Tryz.prog) 34 5 .i64 hu34 hinf A5 n5 c5 (mT : Int) (by omega) (by omega) l5
    simp only [Int.toNat_natCast] at hsl
    have l6 : mT ≤ c5 := by omega
    have HTM := Aside0.mk (show ((data.flatten.drop ahead).take mT).length = mT by rw [List.length_take, HDL.out]; omega)
    have HC5 := Aside0.mk (show Kd.C (Kd.int .u8) w4 A5 mT ((data.flatten.drop ahead).take mT) from by
      have h1 := Kd.C_take (m := mT) (show Kd.C (Kd.int .u8) w4 A5 (data.flatten.drop ahead).length (data.flatten.drop ahead) by rw [HDL.out]; exact HDR.out) (by rw [HDL.out]; exact hmn)
      rw [HTM.out] at h1
      exact h1)
    have HT := Aside0.mk (show ∃ m5 : Nat, True from ⟨0, trivial⟩)
    clear cbad hres hsp hmn HTK HTL HC4 HDR
    rcases Nat.eq_zero_or_pos ahead with ha0 | ha0
    all_goals
      first
      | (have a0 : decide ((0 : Int) < (ahead : Int)) = false := decide_eq_false (by omega)
         have a0' : decide (0 < ahead) = false := decide_eq_false (by omega)
         obtain rfl := HT0.out ha0
         clear ha0
         go_wp2_with fail
         have HB5 := HB4
         have HX5 := HX4
         have HD5 := HD4
         have HC6 := HC5
         clear q2 ee HB4 HX4 HD4 HC5 HTO
         generalize w4 = w5 at HB5 HX5 HD5 HC6 ⊢)
      | (have a0 : decide ((0 : Int) < (ahead : Int)) = true := decide_eq_true (by omega)
         have a0' : decide (0 < ahead) = true := decide_eq_true (by omega)
         have HTC := Aside0.mk (HTO.out ha0)
         clear ha0
         go_wp2_with fail
         refine HTC.out.mono ?_
         rintro e w5 ⟨rfl, m5, rfl⟩
         go_wp2_with fail
         have HB5 := Aside0.mk (akz HB4.out m5)
         have HX5 := Aside0.mk (aez HX4.out m5)
         have HD5 := Aside0.mk (aez HD4.out m5)
         have HC6 := Aside0.mk (Kd.aYz HC5.out m5)
         clear q2 ee HB4 HX4 HD4 HC5 HTO HTC
         generalize w4.drewN m5 = w5 at HB5 HX5 HD5 HC6 ⊢)
    all_goals
      have q0 : w5.cell? ⟨w.heap.size, 0, none⟩ = some (.int .i64 p) := (aaz HX5.out 0).trans rfl
      have q1 : w5.cell? ⟨w.heap.size, 1, none⟩ = some (.int .i64 (n : Int)) := (aaz HX5.out 1).trans rfl
      have q3 : w5.cell? ⟨w.heap.size, 2, none⟩ = some (.int .i64 (M : Int)) := (aaz HX5.out 2).trans rfl
      have HSC := Aside0.mk (show Calls Tryz.prog 47 #[.agg #[.int .i64 p, .int .i64 (n : Int), .int .i64 (M : Int)], .slice A5 mT c5] w5.drew _ from by
        have h1 := arz.calls k p (n : Int) (M : Int) A5 c5 ((data.flatten.drop ahead).take mT) t1 t2 w5.drew (by rw [HTM.out]; exact Kd.bWz HC6.out) (by rw [HTM.out]; exact l6) HSP.out
        rw [HTM.out] at h1
        exact h1)
      refine a5z (n := 10) (S := fun w' => w'.cell? ⟨w.heap.size, 0, none⟩ = some (.int .i64 p) ∧ w'.cell? ⟨w.heap.size, 1, none⟩ = some (.int .i64 (n : Int)) ∧ w'.cell? ⟨w.heap.size, 2, none⟩ = some (.int .i64 (M : Int))) (ds := []) (bA 10 0) kr_ rfl rfl ⟨q0, q1, q3⟩ (fun hHeld => ?_)
      refine pu_ 1 78 2 ?_
      refine pu_ 2 79 6 ?_
      refine pu_ 3 80 14 ?_
      refine tk_ 0 77 15 hHeld ?_
      refine one_ (i := 4) (N := some 81) (bA 10 31) rfl rfl kr_ (by decide) (fun K hK => ?_)
      refine goes_ Tryz.func47 kr_ rfl #[.agg #[.int .i64 p, .int .i64 (n : Int), .int .i64 (M : Int)], .slice A5 mT c5] (by rfl) rfl rfl am_ ?_
      with_reducible refine (HSC.out).mono ?_
      rintro e w6 ⟨v6, rfl, p3, p4⟩
      refine ⟨_, rfl, ?_⟩
      have P3 := Aside0.mk p3
      have HB6 := Aside0.mk (HB5.out.drew.trans (p4.mono HB5.out.drew.size))
      have HX6 := Aside0.mk (ahz (show w5.drew.heap[w.heap.size]? = _ from HX5.out) p4)
      have HD6 := Aside0.mk (ahz (show w5.drew.heap[w.heap.size + 1]? = _ from HD5.out) p4)
      have HC7 := Aside0.mk (Kd.auz (Kd.bWz HC6.out) p4)
      clear p3 p4
      refine hK.out _ _ ⟨(aaz HX6.out 0).trans rfl, (aaz HX6.out 1).trans rfl, (aaz HX6.out 2).trans rfl⟩ (fun hHeld => ?_)
      clear hK K
      refine norm_ (a' := ?_) ?_ ?_
      rotate_left
      · show Act.put _ (some 81) _ = _
        simp only [Act.put, List.setIfInBounds_toArray, List.set_cons_zero, List.set_cons_succ, i64_w, i32_w]
        rfl
      refine pu_ 5 76 63 ?_
      refine pu_ 6 82 127 ?_
      refine pu_ 7 83 255 ?_
      refine pu_ 8 11 511 ?_
      refine pu_ 9 12 1023 ?_
      refine done_ kr_ ?_
      have q2 : w6.cell? ⟨w.heap.size + 1, 0, none⟩ = some (.slice (some a1) n c1) := (aaz HD6.out 0).trans rfl
      obtain ⟨A7, c7, rfl, l7, C7⟩ := Kd.S_reads P3.out
      have hres := HRS.out
      by_cases ht : t2 = 0
      · subst ht
        rw [if_pos rfl] at hres
        obtain ⟨b, hb, hres⟩ := Option.bind_eq_some_iff.1 hres
        have HEQ := Aside0.mk (show Calls Tryz.prog 45 #[.slice A7 t1.length c7, .slice (some a1) n c1, .func (.func 46) #[] #[]] w6 _ from by
          have h1 := eqFunc.calls k A7 (some a1) c7 c1 t1 data b w6 C7 (Kd.auz HR.out HB6.out) hb
          rw [HN.out] at h1
          exact h1)
        have HRZ := Aside0.mk hres
        generalize t1.length = m1 at HEQ l7 ⊢
        clear C7 P3 hb hres HSC
        cases b with
        | true =>
          have HRR := Aside0.mk (show r1 = (data.flatten.drop ahead).take mT ∧ r2 = 0 by
            have := HRZ.out
            rw [if_pos rfl] at this
            cases this; exact ⟨rfl, rfl⟩)
          go_wp2_with fail
          refine HEQ.out.mono ?_
          rintro e w7 ⟨rfl, q7⟩
          have HB7 := Aside0.mk (HB6.out.trans (q7.mono HB6.out.size))
          have HCL := Aside0.mk (show Calls Tryz.prog 57 #[.slice A5 mT c5] w7 _ from by
            have h1 := clone_b.calls A5 c5 ((data.flatten.drop ahead).take mT) w7 (by rw [HTM.out]; exact Kd.auz HC7.out q7) (by rw [HTM.out]; omega)
            rw [HTM.out] at h1
            exact h1)
          clear q7 q2
          go_wp2_with fail
          refine HCL.out.mono ?_
          rintro e w8 ⟨v8, rfl, p8, q8⟩
          have P8 := Aside0.mk p8
          have HB8 := Aside0.mk (HB7.out.trans (q8.mono HB7.out.size))
          clear p8 q8
          go_wp2
          go_ret2
          exact ⟨_, by rw [HRR.out.2]; rfl, by rw [HRR.out.1]; exact Kd.bkz P8.out HB7.out.size, HB8.out⟩
        | false =>
          have HRR := Aside0.mk (show r1 = [] ∧ r2 = 3 by
            have := HRZ.out
            rw [if_neg (by decide)] at this
            cases this; exact ⟨rfl, rfl⟩)
          go_wp2_with fail
          refine HEQ.out.mono ?_
          rintro e w7 ⟨rfl, q7⟩
          have HB7 := Aside0.mk (HB6.out.trans (q7.mono HB6.out.size))
          clear q7 q2
          go_wp2
          go_ret2
          exact ⟨_, by rw [HRR.out.2]; rfl, by rw [HRR.out.1]; exact Kd.R_nil _ _ _ _ _, HB7.out⟩
      · rw [if_neg ht] at hres
        have HRR := Aside0.mk (show r1 = [] ∧ r2 = 3 by cases hres; exact ⟨rfl, rfl⟩)
        have hne2 : (t2 != 0) = true := by simpa using ht
        generalize t1.length = m1 at l7 ⊢
        clear C7 P3 hres HSC ht
        go_wp2
        go_ret2
        exact ⟨_, by rw [HRR.out.2]; rfl, by rw [HRR.out.1]; exact Kd.R_nil _ _ _ _ _, HB6.out⟩
set_option maxRecDepth 100000 in
set_option maxHeartbeats 4000000 in
theorem alz.form (p : Int) (n M L N unit ahead : Nat) (m : Int) (A1 : Option Addr) (c1 : Nat) (data : List (List Int)) (w : World) (h : agz.f p (n : Int) (M : Int) = some true) (hn : data.length = n) (h0 : 0 < n) (hn8 : n ≤ 1000) (hr : Kd.C (dM 5 .u8) w A1 data.length data)
  (hsm : data.flatten.length ≤ 1000000) (ho : data.any (fun x => (x.length : Int) != ((data.getD 0 []).length : Int)) = false) (hL : (data.getD 0 []).length = L) (hN : data.flatten.length = N) (hru : aUz.f p (n : Int) (M : Int) = some ((unit : Int), (ahead : Int))) (hu1 : 1 ≤ unit) (hu2 : unit ≤ 100)
  (hbad : L = 0 ∨ (L : Int) % (unit : Int) ≠ 0 ∨ N < ahead) :
  Calls Tryz.prog 33 #[.agg #[.int .i64 p, .int .i64 (n : Int), .int .i64 (M : Int)], .slice A1 n c1, .int .i64 m] w fun e w' => e = .returned (.tuple #[.slice none 0 0, .int .i64 3]) ∧ Below w.heap.size w w' := by
 have HM := Aside0.mk (fun w => agz.calls p (n : Int) (M : Int) true w h)
 have HRU := Aside0.mk (fun w => aUz.calls p (n : Int) (M : Int) (unit : Int) (ahead : Int) w hru)
 have HR := Aside0.mk hr
 have HN := Aside0.mk hn
 have HO := Aside0.mk ho
 have HSM := Aside0.mk hsm
 have HFL := Aside0.mk hN
 obtain ⟨r0, hr0⟩ : ∃ r, data[0]? = some r := ⟨_, List.getElem?_eq_getElem (by omega)⟩
 have hg : data.getD 0 [] = r0 := by rw [List.getD_eq_getElem?_getD, hr0]; rfl
 have HL := Aside0.mk (show r0.length = L by rw [← hg]; exact hL)
 have HR0 := Aside0.mk hr0
 have hu := Tryz.underlying23
 have hu34 := Tryz.underlying34
 have HB := Aside0.mk (acz (acz (Below.refl w.heap.size w) (.cells #[.int .i64 p, .int .i64 (n : Int), .int .i64 (M : Int)] 23)) (.cells #[.slice A1 n c1] 24))
 have HX := Aside0.mk (adz (bpz w (.cells #[.int .i64 p, .int .i64 (n : Int), .int .i64 (M : Int)] 23)) (.cells #[.slice A1 n c1] 24))
 have HD := Aside0.mk (bpz (w.alloc (.cells #[.int .i64 p, .int .i64 (n : Int), .int .i64 (M : Int)] 23)) (.cells #[.slice A1 n c1] 24))
 have hself : ((n : Int) != (n : Int)) = false := by simp
 have hz : (w.alloc (.cells #[.int .i64 p, .int .i64 (n : Int), .int .i64 (M : Int)] 23)).heap.size = w.heap.size + 1 := by simp
 have hmf : ∀ (fn : Fn) (first cap : Array Value) (w : World), (Instr.makeFunc fn first cap).run Tryz.prog w = .ok (.func fn first cap) w := fun _ _ _ _ => rfl
 have hinfo : (Tryz.prog.info? 5).map (fun i => i.size) = some 1 := by kernel_rfl
 obtain ⟨inf, hinf, hsz⟩ := Option.map_eq_some_iff.1 hinfo
 rw [hz] at HD
 have n0 : (0 : Int) < (n : Int) := by omega
 have u0 : ((unit : Int) == 0) = false := by
  have : (unit : Int) ≠ 0 := by omega
  simpa using this
 have u1 : (0 : Int) < (unit : Int) := by omega
 have u2 : (unit : Int) ≤ 100 := by omega
 have HBAD := Aside0.mk hbad
 have hN2 : N ≤ 1000000 := by rw [← hN]; exact hsm
 clear h hz hr hn ho hsm hN hinfo hru hg hr0 hL hbad
 go_enter Tryz.func33, Tryz.ntmps33
 go_wp2_with fail
 generalize (w.alloc (.cells #[.int .i64 p, .int .i64 (n : Int), .int .i64 (M : Int)] 23)).alloc (.cells #[.slice A1 n c1] 24) = w0 at HB HX HD ⊢
 refine (HM.out w0).mono ?_
 rintro e w1 ⟨rfl, hB1⟩
 have HB1 := Aside0.mk (HB.out.trans (hB1.mono HB.out.size))
 have HX1 := Aside0.mk (ahz HX.out hB1)
 have HD1 := Aside0.mk (ahz HD.out hB1)
 have q1 : w1.cell? ⟨w.heap.size, 1, none⟩ = some (.int .i64 (n : Int)) := (aaz HX1.out 1).trans rfl
 have q2 : w1.cell? ⟨w.heap.size + 1, 0, none⟩ = some (.slice A1 n c1) := (aaz HD1.out 0).trans rfl
 have HCO := Aside0.mk (fun (m0 : Nat) => con_Join1.calls (fun x => (x.length : Int) != ((data.getD 0 []).length : Int)) (.pointer (some ⟨w.heap.size + 1, 0, none⟩)) A1 c1 data (w1.drewN m0) (Kd.aYz (Kd.auz HR.out HB1.out) m0) (by rw [HN.out]; omega) (fun m x A' c' _ _ _ => join1.calls (w.heap.size + 1) A1 n c1 data x A' c' _ ((aaz (aez (aez HD1.out m0) m) 0).trans rfl) HN.out h0 (Kd.aYz (Kd.aYz (Kd.auz HR.out HB1.out) m0) m)))
 rw [HO.out, HN.out] at HCO
 have HC0 := Aside0.mk (HCO.out 0)
 rw [World.drewN_zero] at HC0
 clear hB1 HX HD HCO HB HM HO
 go_wp2_with fail
 refine HC0.out.mono ?_
 rintro e w2 ⟨rfl, m2, rfl⟩
 have HB2 := Aside0.mk (akz HB1.out m2)
 have HX2 := Aside0.mk (aez HX1.out m2)
 have HD2 := Aside0.mk (aez HD1.out m2)
 clear q1 q2 HC0 HX1 HD1 HB1
 generalize w1.drewN m2 = w2 at HB2 HX2 HD2 ⊢
 have q0 : w2.cell? ⟨w.heap.size, 0, none⟩ = some (.int .i64 p) := (aaz HX2.out 0).trans rfl
 have q1 : w2.cell? ⟨w.heap.size, 1, none⟩ = some (.int .i64 (n : Int)) := (aaz HX2.out 1).trans rfl
 have q3 : w2.cell? ⟨w.heap.size, 2, none⟩ = some (.int .i64 (M : Int)) := (aaz HX2.out 2).trans rfl
 go_wp2_with fail
 refine (HRU.out w2).mono ?_
 rintro e w3 ⟨rfl, hB3⟩
 have HB3 := Aside0.mk (HB2.out.trans (hB3.mono HB2.out.size))
 have HX3 := Aside0.mk (ahz HX2.out hB3)
 have HD3 := Aside0.mk (ahz HD2.out hB3)
 have q2 : w3.cell? ⟨w.heap.size + 1, 0, none⟩ = some (.slice A1 n c1) := (aaz HD3.out 0).trans rfl
 have HCC := Aside0.mk (dDz.calls A1 c1 data w3 (Kd.auz HR.out HB3.out) (by rw [HN.out]; omega) HSM.out)
 rw [HN.out] at HCC
 clear q0 q1 q3 hB3 HX2 HD2 HB2 HRU
 go_wp2_with fail
 refine HCC.out.mono ?_
 rintro e w4 ⟨v4, rfl, hR4, hB4⟩
 have HB4 := Aside0.mk (HB3.out.trans (hB4.mono HB3.out.size))
 have HX4 := Aside0.mk (ahz HX3.out hB4)
 have HD4 := Aside0.mk (ahz HD3.out hB4)
 obtain ⟨A4, c4, rfl, l4, C4⟩ := Kd.b4z hR4
 rw [HFL.out] at l4 ⊢
 have HC4 := Aside0.mk C4
 obtain ⟨a1, Ar, cr, ea, e1, lr, -⟩ := a9z (Kd.auz HR.out HB4.out) 0 r0 HR0.out
 have ee : w4.cell? a1 = some (.slice Ar L cr) := by rw [bTz, HL.out] at e1; exact e1
 have q2 : w4.cell? ⟨w.heap.size + 1, 0, none⟩ = some (.slice A1 n c1) := (aaz HD4.out 0).trans rfl
 clear hB4 HX3 HD3 HB3 HCC hR4 C4 e1 lr
 subst ea
 have hcases : (L = 0) ∨ (L ≠ 0 ∧ (L : Int) % (unit : Int) ≠ 0) ∨ (L ≠ 0 ∧ (L : Int) % (unit : Int) = 0 ∧ N < ahead) := by
  have := HBAD.out
  by_cases h1 : L = 0
  ·exact .inl h1
  ·by_cases h2 : (L : Int) % (unit : Int) = 0
   ·exact .inr (.inr ⟨h1, h2, by omega⟩)
   ·exact .inr (.inl ⟨h1, h2⟩)
 have HTM := Aside0.mk (Int.tmod_eq_emod_of_nonneg (a := (L : Int)) (b := (unit : Int)) (by omega))
 rcases hcases with hz | ⟨hz, hq⟩ | ⟨hz, hq, hna⟩
 ·have l0 : ((L : Int) == 0) = true := by simpa using hz
  have l0' : (L == 0) = true := by simpa using hz
  clear hz
  go_wp2
  go_ret2
  exact ⟨rfl, HB4.out⟩
 ·have l0 : ((L : Int) == 0) = false := by simpa using hz
  have l0' : (L == 0) = false := by simpa using hz
  have lu : ((L : Int) % (unit : Int) != 0) = true := by simpa using hq
  have lt : (Int.tmod (L : Int) (unit : Int) != 0) = true := by rw [HTM.out]; exact lu
  clear hz hq
  go_wp2
  go_ret2
  exact ⟨rfl, HB4.out⟩
 ·have l0 : ((L : Int) == 0) = false := by simpa using hz
  have l0' : (L == 0) = false := by simpa using hz
  have lu : ((L : Int) % (unit : Int) != 0) = false := by rw [hq]; rfl
  have lt : (Int.tmod (L : Int) (unit : Int) != 0) = false := by rw [HTM.out]; exact lu
  have na : decide ((N : Int) < (ahead : Int)) = true := decide_eq_true (by omega)
  have na' : decide (N < ahead) = true := decide_eq_true hna
  clear hz hq hna
  go_wp2
  go_ret2
  exact ⟨rfl, HB4.out⟩
theorem aUz.some {p K M : Int} (h : agz.f p K M = some true) : ∃ unit ahead : Nat, aUz.f p K M = some ((unit : Int), (ahead : Int)) ∧ 1 ≤ unit ∧ unit ≤ 100 := by
 obtain ⟨p1, p2, -⟩ := bfz h
 have : p = 1 ∨ p = 2 ∨ p = 3 ∨ p = 4 ∨ p = 5 ∨ p = 6 := by omega
 rcases this with rfl | rfl | rfl | rfl | rfl | rfl
 ·exact ⟨8, 0, rfl, by decide, by decide⟩
 ·exact ⟨8, 0, rfl, by decide, by decide⟩
 ·exact ⟨16, 0, rfl, by decide, by decide⟩
 ·exact ⟨16, 0, rfl, by decide, by decide⟩
 ·exact ⟨1, 4, rfl, by decide, by decide⟩
 ·exact ⟨1, 0, rfl, by decide, by decide⟩
theorem alz.calls (k : Nat) (a0_0 : Int) (a0_1 : Int) (a0_2 : Int) (A1 : Option Addr) (c1 : Nat) (l1 : List (List Int)) (a2 : Int) (r1 : List Int) (r2 : Int) (w : World) (hr1 : Kd.C (Kd.slice 5 (Kd.int .u8)) w A1 l1.length l1) (hc1 : l1.length ≤ c1) (h : alz.f k a0_0 a0_1 a0_2 l1 a2 = some (r1, r2)) :
 Calls Tryz.prog 33 #[.agg #[.int .i64 a0_0, .int .i64 a0_1, .int .i64 a0_2], .slice A1 l1.length c1, .int .i64 a2] w fun e w' => ∃ v0_ : Value, e = .returned (.tuple #[v0_, .int .i64 r2]) ∧ Kd.R (Kd.int .u8) 5 w' w.heap.size (fun _ => True) v0_ r1 ∧ Below w.heap.size w w' := by
 have none3 : ∀ {r : Int}, Calls Tryz.prog 33 #[.agg #[.int .i64 a0_0, .int .i64 a0_1, .int .i64 a0_2], .slice A1 l1.length c1, .int .i64 a2] w (fun e w' => e = .returned (.tuple #[.slice none 0 0, .int .i64 r]) ∧ Below w.heap.size w w') → r1 = [] → r2 = r →
   Calls Tryz.prog 33 #[.agg #[.int .i64 a0_0, .int .i64 a0_1, .int .i64 a0_2], .slice A1 l1.length c1, .int .i64 a2] w fun e w' => ∃ v0_ : Value, e = .returned (.tuple #[v0_, .int .i64 r2]) ∧ Kd.R (Kd.int .u8) 5 w' w.heap.size (fun _ => True) v0_ r1 ∧ Below w.heap.size w w' := by
  rintro r hc rfl rfl
  exact hc.mono fun e w' ⟨h1, h2⟩ => ⟨_, h1, Kd.R_nil _ _ _ _ _, h2⟩
 unfold alz.f at h
 obtain ⟨b, hb, h⟩ := Option.bind_eq_some_iff.1 h
 cases b with
 | false =>
  rw [if_neg (by decide)] at h
  cases h
  exact none3 (alz.nomay a0_0 a0_1 a0_2 a2 A1 c1 l1.length w hb) rfl rfl
 | true =>
  rw [if_pos rfl] at h
  obtain ⟨p1, p2, k1, k2, m1, m2⟩ := bfz hb
  by_cases hl : (l1.length : Int) = a0_1
  ·rw [if_pos hl] at h
   by_cases hsm : alz.small l1 = true
   ·rw [if_pos hsm] at h
    obtain ⟨M, rfl⟩ : ∃ M : Nat, a0_2 = (M : Int) := ⟨a0_2.toNat, by omega⟩
    subst hl
    unfold alz.small at hsm
    simp only [Bool.and_eq_true, decide_eq_true_eq] at hsm
    by_cases ho : l1.any (fun x => (x.length : Int) != ((l1.getD 0 []).length : Int)) = true
    ·rw [if_pos ho] at h
     cases h
     exact none3 (alz.odd a0_0 (l1.length : Int) (M : Int) a2 A1 c1 l1.length l1 w hb rfl rfl (by omega) (by omega) hr1 ho) rfl rfl
    ·rw [if_neg ho] at h
     have ho' : l1.any (fun x => (x.length : Int) != ((l1.getD 0 []).length : Int)) = false := by simpa using ho
     obtain ⟨unit, ahead, hru, hu1, hu2⟩ := aUz.some hb
     rw [hru, Option.bind_some] at h
     unfold alz.g at h
     dsimp only at h
     by_cases hbad : (l1.getD 0 []).length = 0 ∨ ((l1.getD 0 []).length : Int) % (unit : Int) ≠ 0 ∨ l1.flatten.length < ahead
     ·have HC : (l1.getD 0 []).length = 0 ∨ ((l1.getD 0 []).length : Int) % (unit : Int) ≠ 0 ∨ (l1.flatten.length : Int) < (ahead : Int) := by
       rcases hbad with h1 | h2 | h3
       ·exact .inl h1
       ·exact .inr (.inl h2)
       ·exact .inr (.inr (by omega))
      rw [if_pos HC] at h
      cases h
      exact none3 (alz.form a0_0 l1.length M _ _ unit ahead a2 A1 c1 l1 w hb rfl (by omega) (by omega) hr1 hsm.1 ho' rfl rfl hru hu1 hu2 hbad) rfl rfl
     ·have HC : ¬ ((l1.getD 0 []).length = 0 ∨ ((l1.getD 0 []).length : Int) % (unit : Int) ≠ 0 ∨ (l1.flatten.length : Int) < (ahead : Int)) := by
       rintro (h1 | h2 | h3)
       ·exact hbad (.inl h1)
       ·exact hbad (.inr (.inl h2))
       ·exact hbad (.inr (.inr (by omega)))
      rw [if_neg HC] at h
      have hb1 : (l1.getD 0 []).length ≠ 0 := fun h => hbad (.inl h)
      have hb2 : ((l1.getD 0 []).length : Int) % (unit : Int) = 0 := by
       by_cases h2 : ((l1.getD 0 []).length : Int) % (unit : Int) = 0
       ·exact h2
       ·exact absurd (.inr (.inl h2)) hbad
      have hb3 : ahead ≤ l1.flatten.length := by omega
      by_cases ha : 0 < ahead
      ·rw [if_pos (by omega)] at h
       obtain ⟨m', hm', h⟩ := Option.bind_eq_some_iff.1 h
       rw [Int.toNat_natCast] at hm' h
       exact alz.go k a0_0 l1.length M _ _ unit ahead a2 m' A1 c1 l1 r1 r2 w hb rfl (by omega) (by omega) hr1 hsm.1 ho' rfl rfl hru hu1 hu2 hb1 hb2 hb3 (by omega) (fun _ => hm') h
      ·rw [if_neg (by omega)] at h
       rw [Int.toNat_natCast] at h
       exact alz.go k a0_0 l1.length M _ _ unit ahead a2 a2 A1 c1 l1 r1 r2 w hb rfl (by omega) (by omega) hr1 hsm.1 ho' rfl rfl hru hu1 hu2 hb1 hb2 hb3 (fun _ => rfl) (by omega) h
   ·rw [if_neg hsm] at h
    cases h
  ·rw [if_neg hl] at h
   cases h
   exact none3 (alz.nolen a0_0 a0_1 a0_2 a2 A1 c1 l1.length w hb hl) rfl rfl
end Go.Proofs.YtelcllhibpnneaaGreat.XCo
end
