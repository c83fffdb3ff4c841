-- Joined by this work's own program (wip/tools/bundle.py) out of its texts: what this claim uses of them. Not trusted: Lean checks it.
import Derived.Test.YtelcllhibpnneaaGreatProg
import Derived.Below
import Derived.Deep.Draws
import Derived.Deep.AppendLies
import Derived.Maps.AppendAt
import Derived.OwnWalk
import Derived.Laws.BytesArg
import Derived.Laws.MakeOwn
import Derived.Laws.OwnMore
import Derived.Deep.OwnRows
import Derived.Tactics
import Derived.Lib.ConvBytes
import Derived.Laws.Slices
import Derived.WalkKit
import Derived.KernelRfl
import Derived.RowKit3
import Derived.Deep.LoopGhost
import Derived.Deep.QuietTactic
import Derived.BigQuiet
import Derived.WideLaws
import Derived.Deep.DeepCutAuto
import Derived.Deep.CutBlock
import Derived.Deep.RegionHeld3
import Derived.Laws.Rows
import Derived.Lib.AppendStr
import Derived.ArgAppend
import Derived.Laws.IdiomCopy
import Derived.OrdersHeld
import Derived.Laws.BitsLemmas
import Derived.RowKit
import Derived.Laws.CopyOwn
import Derived.Test.YtelcllhibpnneaaGreatBCodecLinear1
import Derived.Test.YtelcllhibpnneaaGreatBCodecLinear4
section
namespace Go.Proofs.YtelcllhibpnneaaGreat.XCo
open Go.RowKit Go.Proofs.YtelcllhibpnneaaGreatW.PrintWords Go.Proofs.YtelcllhibpnneaaGreatW.PrintLast Go.Proofs.YtelcllhibpnneaaGreatW.PrintMore
attribute [local go_sem] max2_int min2_int max_two min_two max_three min_three max_four min_four
set_option linter.unusedVariables false
set_option linter.unusedSimpArgs false
def errW : Option Int → Value
 | none => .nilIface
 | some c => .iface 0 (.int .i64 c)
theorem errW_none : errW none = .nilIface := rfl
theorem errW_some (c : Int) : errW (some c) = .iface 0 (.int .i64 c) := rfl
theorem info3 : (Tryz.prog.info? 3).map (fun i => (i.zero, i.size, i.bytes)) = some (some (.int .i64 0), 1, 8) := by kernel_rfl
theorem info5 : (Tryz.prog.info? 5).map (fun i => (i.zero, i.size, i.bytes)) = some (some (.int .u8 0), 1, 1) := by kernel_rfl
theorem info34 : (Tryz.prog.info? 34).map (fun i => (i.zero, i.size, i.bytes)) = some (some (.slice none 0 0), 1, 24) := by kernel_rfl
theorem info66 : (Tryz.prog.info? 66).map (fun i => (i.zero, i.size, i.bytes)) = some (some (.slice none 0 0), 1, 24) := by kernel_rfl
def rd_L1 (xs : List (List Int)) (i : Int) : (List Int) := xs.getD i.toNat ([] : List Int)
theorem at_L1 {w : World} {A : Option Addr} {n : Nat} {xs : List (List Int)} (h : Kd.C (Kd.slice 5 (Kd.int .u8)) w A n xs) (i : Int) (h0 : 0 ≤ i) (h1 : i < n) : ∃ ad A0 c0, A = some ad ∧ w.cell? (ad.add i.toNat) = some (.slice A0 (rd_L1 xs i).length c0) ∧ (rd_L1 xs i).length ≤ c0 ∧ (Kd.int .u8).C w A0 (rd_L1 xs i).length (rd_L1 xs i) := by
 obtain ⟨ad, c, e, _, hK, hc0⟩ := Kd.C_get h ([] : List Int) i h0 h1
 have hc : ∀ j u, c[j]? = some u → w.cell? (ad.add (i.toNat * 1 + j)) = some u := hc0
 obtain ⟨A0, c0, rfl, l0, g0⟩ := hK
 exact ⟨ad, A0, c0, e, by have hq := hc 0 _ rfl; rwa [Nat.mul_one, Nat.add_zero] at hq, l0, g0⟩
end Go.Proofs.YtelcllhibpnneaaGreat.XCo
end
section
namespace Go.Proofs.YtelcllhibpnneaaGreat.XCo
open Go.RowKit Go.Proofs.YtelcllhibpnneaaGreatW.PrintWords Go.Proofs.YtelcllhibpnneaaGreatW.PrintLast Go.Proofs.YtelcllhibpnneaaGreatW.PrintMore
attribute [local go_sem] max2_int min2_int max_two min_two max_three min_three max_four min_four
set_option linter.unusedVariables false
set_option linter.unusedSimpArgs false
def bL : Nat → Nat → List Bool
 | 0, _ => []
 | n + 1, m => (m % 2 == 1) :: bL n (m / 2)
def bA (n m : Nat) : Array Bool := (bL n m).toArray
section
variable {P : Program} {md : Region.Mode} {ops : Array Oper} {Q : Exit → Act → World → Prop} {S : World → Prop} {ds : List Nat} {oi : Oper} {v : Value} {fuel n m0 : Nat} {a a' : Act} {w : World} {T : Bool × List (List Nat × List Nat)} {B : List Nat}
theorem pu_ (i d m : Nat)
  (h : wpAnyLast P md ops Q S ds fuel (bA n m) a' w)
  (hi : ops[i]? = some oi := by exact rfl) (hN : oi.dst = some d := by exact rfl)
  (hc : anyB md ops (bA n m0) (bA n m) i = true := by kernel_rfl)
  (hQ : ∀ c v a w, Q (.panic c) (Act.put a (some d) v) w → Q (.panic c) a w := by exact fun _ _ _ _ h => h)
  (hy : Yields P ops oi v a := by (refine Or.inl ⟨by rfl, ?_⟩; intro w'; go_simp; with_reducible rfl))
  (ha : a.put (some d) v = a' := by (simp only [Act.put, List.setIfInBounds_toArray, List.set_cons_zero, List.set_cons_succ, i64_w, i32_w]; rfl)) :
  wpAnyLast P md ops Q S ds (fuel + 1) (bA n m0) a w := pure_ _ hi hN hc (fun c a w => by rw [hN]; exact hQ c _ a w) hy ha h
theorem pv_ (i d m : Nat) (HT : Aside0 (rtab md ops = T))
  (h : wpAnyLast P md ops Q S ds fuel (bA n m) a' w)
  (hi : ops[i]? = some oi := by exact rfl) (hN : oi.dst = some d := by exact rfl)
  (hc : anyT T (bA n m0).toList (bA n m).toList i = true := by kernel_rfl)
  (hQ : ∀ c v a w, Q (.panic c) (Act.put a (some d) v) w → Q (.panic c) a w := by exact fun _ _ _ _ h => h)
  (hy : Yields P ops oi v a := by (refine Or.inl ⟨by rfl, ?_⟩; intro w'; go_simp; with_reducible rfl))
  (ha : a.put (some d) v = a' := by (simp only [Act.put, List.setIfInBounds_toArray, List.set_cons_zero, List.set_cons_succ, i64_w, i32_w]; rfl)) :
  wpAnyLast P md ops Q S ds (fuel + 1) (bA n m0) a w := pure_ _ hi hN (any_of HT.out hc) (fun c a w => by rw [hN]; exact hQ c _ a w) hy ha h
theorem tk_ (i d m : Nat) (hS : S w)
  (h : wpAnyLast P md ops Q S ds fuel (bA n m) a' w)
  (hi : ops[i]? = some oi := by exact rfl) (hN : oi.dst = some d := by exact rfl)
  (hc : takeB md ops ds (bA n m0) (bA n m) i = true := by kernel_rfl)
  (hQ : ∀ c v a w, Q (.panic c) (Act.put a (some d) v) w → Q (.panic c) a w := by exact fun _ _ _ _ h => h)
  (hy : YieldsIf P ops S oi v a := by (refine Or.inl ⟨by rfl, ?_⟩; intro w' hs; (try dsimp only at hs); (repeat (rcases hs with ⟨s0, hs⟩)); go_simp; with_reducible rfl))
  (ha : a.put (some d) v = a' := by (simp only [Act.put, List.setIfInBounds_toArray, List.set_cons_zero, List.set_cons_succ, i64_w, i32_w]; rfl)) :
  wpAnyLast P md ops Q S ds (fuel + 1) (bA n m0) a w := take_ _ hi hN hc (fun c a w => by rw [hN]; exact hQ c _ a w) hy hS ha h
theorem tw_ (i d m : Nat) (HT : Aside0 (rtab md ops = T)) (HW : Aside0 (waitsOk T.2 B = true)) (hS : S w)
  (h : wpAnyLast P md ops Q S ds fuel (bA n m) a' w)
  (hi : ops[i]? = some oi := by exact rfl) (hN : oi.dst = some d := by exact rfl)
  (hc : takeW T B ds (bA n m0).toList (bA n m).toList i = true := by kernel_rfl)
  (hQ : ∀ c v a w, Q (.panic c) (Act.put a (some d) v) w → Q (.panic c) a w := by exact fun _ _ _ _ h => h)
  (hy : YieldsIf P ops S oi v a := by (refine Or.inl ⟨by rfl, ?_⟩; intro w' hs; (try dsimp only at hs); (repeat (rcases hs with ⟨s0, hs⟩)); go_simp; with_reducible rfl))
  (ha : a.put (some d) v = a' := by (simp only [Act.put, List.setIfInBounds_toArray, List.set_cons_zero, List.set_cons_succ, i64_w, i32_w]; rfl)) :
  wpAnyLast P md ops Q S ds (fuel + 1) (bA n m0) a w := take_ _ hi hN (take_ofW HT.out HW.out hc) (fun c a w => by rw [hN]; exact hQ c _ a w) hy hS ha h
end
theorem kr_ {p : Prop} (h : p := by kernel_rfl) : p := h
theorem bl_ {p : Prop} (h : p := by repeat (first | (with_reducible first | exact HB.out | apply below_alloc | apply pw_below_drewN | apply below_drew1 | refine below_set ?_ (Aside0.out (by assumption))) | exact HB.out)) : p := h
theorem gs_ {p : Prop} (h : p := by rw [hg]; exact (below_size bl_)) : p := h
theorem bk_ {p : Prop} (h : p := by (with_reducible repeat (first | refine blk_drewN ?_ _ | refine blk_drew ?_ | refine blk_alloc ?_ _)); exact Aside0.out (by assumption)) : p := h
theorem ar_ {p : Prop} (h : p := by (try simp only [List.map_toArray, List.map_cons, List.map_nil]); first | done | rfl | (simp only [List.length_drop, List.length_take]; rfl)) : p := h
theorem am_ {p : Prop} (h : p := by simp only [List.map_toArray, List.map_cons, List.map_nil]; rfl) : p := h
theorem as_ {p : Prop} (h : p := by first | (with_reducible assumption) | assumption) : p := h
theorem er_ {p : Prop} (h : p := by first | rfl | (simp [errW_none, errW_some] <;> rfl) | (simp [*, errW_none, errW_some] <;> rfl)) : p := h
theorem sd_ {p : Prop} (h : p := by first | rfl | (simp; done) | (simp [*]; done)) : p := h
theorem dn_ {p : Prop} (h : p := by repeat (first | exact Drawn0.refl _ | apply Drawn0.step)) : p := h
theorem nl_ {p : Prop} (h : p := by first | exact Kd.S_nil _ _ _ _ _ | exact Kd.N_nil _ _ _ _ _ | exact Kd.V_nil _ _ _ _ _ | exact Kd.Q_nil _ _ _ _ _ | exact Kd.R_nil _ _ _ _ _) : p := h
end Go.Proofs.YtelcllhibpnneaaGreat.XCo
end
section
namespace Go.Proofs.YtelcllhibpnneaaGreat.XCo
open Go.RowKit Go.Proofs.YtelcllhibpnneaaGreatW.PrintWords Go.Proofs.YtelcllhibpnneaaGreatW.PrintLast Go.Proofs.YtelcllhibpnneaaGreatW.PrintMore
attribute [local go_sem] max2_int min2_int max_two min_two max_three min_three max_four min_four
set_option linter.unusedVariables false
set_option linter.unusedSimpArgs false
def gambrelref09_Of.f (a0 : Int) : Option (ByteArray × Int × Int × Int × Int × Bool) := if a0 = 1 then (some ((⟨#[106, 118]⟩ : ByteArray), 8, 285, 106, 4, true)) else (if a0 = 2 then (some ((⟨#[106, 99]⟩ : ByteArray), 16, 69643, 106, 4, true)) else (if a0 = 3 then (some ((⟨#[105, 114]⟩ : ByteArray), 8, 285, 105, 3, true)) else (if a0 = 4 then (some ((⟨#[105, 99]⟩ : ByteArray), 8, 285, 105, 4, true)) else (if a0 = 5 then (some ((⟨#[98, 98]⟩ : ByteArray), 8, 285, 98, 4, true)) else (if a0 = 6 then (some ((⟨#[107, 112]⟩ : ByteArray), 8, 285, 112, 4, true)) else (some ((⟨#[]⟩ : ByteArray), 0, 0, 0, 0, false)))))))
set_option maxHeartbeats 8000000 in
set_option maxRecDepth 100000 in
theorem gambrelref09_Of.calls (a0 : Int) (r1 : ByteArray) (r2 : Int) (r3 : Int) (r4 : Int) (r5 : Int) (r6 : Bool) (w : World) (h : gambrelref09_Of.f a0 = some (r1, r2, r3, r4, r5, r6)) :
  Calls Tryz.prog 41 #[.int .i64 a0] w fun e w' => e = .returned (.tuple #[.agg #[.string r1, .int .i64 r2, .int .u32 r3, .int .u8 r4, .int .i64 r5], .bool r6]) ∧ Below w.heap.size w w' := by
 have hu72 := Tryz.underlying72
 have HB := Aside0.mk (Below.refl w.heap.size w)
 have H : (if a0 = 1 then (some ((⟨#[106, 118]⟩ : ByteArray), 8, 285, 106, 4, true)) else (if a0 = 2 then (some ((⟨#[106, 99]⟩ : ByteArray), 16, 69643, 106, 4, true)) else (if a0 = 3 then (some ((⟨#[105, 114]⟩ : ByteArray), 8, 285, 105, 3, true)) else (if a0 = 4 then (some ((⟨#[105, 99]⟩ : ByteArray), 8, 285, 105, 4, true)) else (if a0 = 5 then (some ((⟨#[98, 98]⟩ : ByteArray), 8, 285, 98, 4, true)) else (if a0 = 6 then (some ((⟨#[107, 112]⟩ : ByteArray), 8, 285, 112, 4, true)) else (some ((⟨#[]⟩ : ByteArray), 0, 0, 0, 0, false)))))))) = some (r1, r2, r3, r4, r5, r6) := h
 clear h
 by_cases c2 : a0 = 1
 ·rw [if_pos c2] at H
  have c2b0 : (a0 == 1) = true := beq_iff_eq.mpr c2
  have c2b1 : (a0 != 1) = false := bne_eq_false_iff_eq.mpr c2
  clear c2
  simp only [Option.some.injEq, Prod.mk.injEq] at H
  obtain ⟨rfl, rfl, rfl, rfl, rfl, rfl⟩ := H
  go_enter Tryz.func41, Tryz.ntmps41
  go_wp2_with (first | ((with_reducible refine gate_dst (N := 2) rfl ?_); refine box_event ?hg (N := 2) ?hd (cs := #[.string (⟨#[]⟩ : ByteArray), .int .i64 0, .int .u32 0, .int .u8 0, .int .i64 0]) (t := 72) ?hr ?_; (case hd => rfl); (case hg => rfl); (case hr => first | (go_simp; done) | (go_simp; rfl)); intro gb144 hg w3 hbox hb; have n0_ := Aside0.mk (below_step bl_ hb); have n1_ := Aside0.mk (hbox); have n2_ := Aside0.mk ((gs_ : w.heap.size ≤ gb144)); have n3_ := Aside0.mk ((gs_ : w.heap.size ≤ gb144)); clear HB; have HB := n0_; have BK144 := n1_; have GW144 := n2_; have GE144 := n3_; clear n0_ n1_ n2_ n3_; clear hb hbox hg; have hcz4_0 : w3.cell? ⟨gb144, 0, none⟩ = some (.string (⟨#[]⟩ : ByteArray)) := (blk_cell BK144.out 0).trans rfl; have hcz4_1 : w3.cell? ⟨gb144, 1, none⟩ = some (.int .i64 0) := (blk_cell BK144.out 1).trans rfl; have hcz4_2 : w3.cell? ⟨gb144, 2, none⟩ = some (.int .u32 0) := (blk_cell BK144.out 2).trans rfl; have hcz4_3 : w3.cell? ⟨gb144, 3, none⟩ = some (.int .u8 0) := (blk_cell BK144.out 3).trans rfl; have hcz4_4 : w3.cell? ⟨gb144, 4, none⟩ = some (.int .i64 0) := (blk_cell BK144.out 4).trans rfl; have hfz4_0 := blk_frozen BK144.out 0; have hfz4_1 := blk_frozen BK144.out 1; have hfz4_2 := blk_frozen BK144.out 2; have hfz4_3 := blk_frozen BK144.out 3; have hfz4_4 := blk_frozen BK144.out 4))
  refine bodyPost_ret (results_ct rfl _ _ gb144 72 #[.string (⟨#[106, 118]⟩ : ByteArray), .int .i64 8, .int .u32 285, .int .u8 106, .int .i64 4] (0, 0) _ rfl (by (with_reducible repeat (first | refine blk_drewN ?_ _ | refine blk_drew ?_ | refine blk_alloc ?_ _)); refine blk_put (cs := #[.string (⟨#[106, 118]⟩ : ByteArray), .int .i64 8, .int .u32 285, .int .u8 106, .int .i64 0]) ?_ 4 _ rfl; (with_reducible repeat (first | refine blk_drewN ?_ _ | refine blk_drew ?_ | refine blk_alloc ?_ _)); refine blk_put (cs := #[.string (⟨#[106, 118]⟩ : ByteArray), .int .i64 8, .int .u32 285, .int .u8 0, .int .i64 0]) ?_ 3 _ rfl; (with_reducible repeat (first | refine blk_drewN ?_ _ | refine blk_drew ?_ | refine blk_alloc ?_ _)); refine blk_put (cs := #[.string (⟨#[106, 118]⟩ : ByteArray), .int .i64 8, .int .u32 0, .int .u8 0, .int .i64 0]) ?_ 2 _ rfl; (with_reducible repeat (first | refine blk_drewN ?_ _ | refine blk_drew ?_ | refine blk_alloc ?_ _)); refine blk_put (cs := #[.string (⟨#[106, 118]⟩ : ByteArray), .int .i64 0, .int .u32 0, .int .u8 0, .int .i64 0]) ?_ 1 _ rfl; (with_reducible repeat (first | refine blk_drewN ?_ _ | refine blk_drew ?_ | refine blk_alloc ?_ _)); refine blk_put (cs := #[.string (⟨#[]⟩ : ByteArray), .int .i64 0, .int .u32 0, .int .u8 0, .int .i64 0]) ?_ 0 _ rfl; (with_reducible repeat (first | refine blk_drewN ?_ _ | refine blk_drew ?_ | refine blk_alloc ?_ _)); exact BK144.out) Tryz.underlying72 rfl kr_) rfl ?_
  exact ⟨er_, bl_⟩
 ·rw [if_neg c2] at H
  have c2b0 : (a0 == 1) = false := beq_eq_false_iff_ne.mpr c2
  have c2b1 : (a0 != 1) = true := bne_iff_ne.mpr c2
  by_cases c5 : a0 = 2
  ·rw [if_pos c5] at H
   have c5b0 : (a0 == 2) = true := beq_iff_eq.mpr c5
   have c5b1 : (a0 != 2) = false := bne_eq_false_iff_eq.mpr c5
   clear c5
   simp only [Option.some.injEq, Prod.mk.injEq] at H
   obtain ⟨rfl, rfl, rfl, rfl, rfl, rfl⟩ := H
   go_enter Tryz.func41, Tryz.ntmps41
   go_wp2_with (first | ((with_reducible refine gate_dst (N := 2) rfl ?_); refine box_event ?hg (N := 2) ?hd (cs := #[.string (⟨#[]⟩ : ByteArray), .int .i64 0, .int .u32 0, .int .u8 0, .int .i64 0]) (t := 72) ?hr ?_; (case hd => rfl); (case hg => rfl); (case hr => first | (go_simp; done) | (go_simp; rfl)); intro gb144 hg w6 hbox hb; have n0_ := Aside0.mk (below_step bl_ hb); have n1_ := Aside0.mk (hbox); have n2_ := Aside0.mk ((gs_ : w.heap.size ≤ gb144)); have n3_ := Aside0.mk ((gs_ : w.heap.size ≤ gb144)); clear HB; have HB := n0_; have BK144 := n1_; have GW144 := n2_; have GE144 := n3_; clear n0_ n1_ n2_ n3_; clear hb hbox hg; have hcz7_0 : w6.cell? ⟨gb144, 0, none⟩ = some (.string (⟨#[]⟩ : ByteArray)) := (blk_cell BK144.out 0).trans rfl; have hcz7_1 : w6.cell? ⟨gb144, 1, none⟩ = some (.int .i64 0) := (blk_cell BK144.out 1).trans rfl; have hcz7_2 : w6.cell? ⟨gb144, 2, none⟩ = some (.int .u32 0) := (blk_cell BK144.out 2).trans rfl; have hcz7_3 : w6.cell? ⟨gb144, 3, none⟩ = some (.int .u8 0) := (blk_cell BK144.out 3).trans rfl; have hcz7_4 : w6.cell? ⟨gb144, 4, none⟩ = some (.int .i64 0) := (blk_cell BK144.out 4).trans rfl; have hfz7_0 := blk_frozen BK144.out 0; have hfz7_1 := blk_frozen BK144.out 1; have hfz7_2 := blk_frozen BK144.out 2; have hfz7_3 := blk_frozen BK144.out 3; have hfz7_4 := blk_frozen BK144.out 4))
   refine bodyPost_ret (results_ct rfl _ _ gb144 72 #[.string (⟨#[106, 99]⟩ : ByteArray), .int .i64 16, .int .u32 69643, .int .u8 106, .int .i64 4] (0, 0) _ rfl (by (with_reducible repeat (first | refine blk_drewN ?_ _ | refine blk_drew ?_ | refine blk_alloc ?_ _)); refine blk_put (cs := #[.string (⟨#[106, 99]⟩ : ByteArray), .int .i64 16, .int .u32 69643, .int .u8 106, .int .i64 0]) ?_ 4 _ rfl; (with_reducible repeat (first | refine blk_drewN ?_ _ | refine blk_drew ?_ | refine blk_alloc ?_ _)); refine blk_put (cs := #[.string (⟨#[106, 99]⟩ : ByteArray), .int .i64 16, .int .u32 69643, .int .u8 0, .int .i64 0]) ?_ 3 _ rfl; (with_reducible repeat (first | refine blk_drewN ?_ _ | refine blk_drew ?_ | refine blk_alloc ?_ _)); refine blk_put (cs := #[.string (⟨#[106, 99]⟩ : ByteArray), .int .i64 16, .int .u32 0, .int .u8 0, .int .i64 0]) ?_ 2 _ rfl; (with_reducible repeat (first | refine blk_drewN ?_ _ | refine blk_drew ?_ | refine blk_alloc ?_ _)); refine blk_put (cs := #[.string (⟨#[106, 99]⟩ : ByteArray), .int .i64 0, .int .u32 0, .int .u8 0, .int .i64 0]) ?_ 1 _ rfl; (with_reducible repeat (first | refine blk_drewN ?_ _ | refine blk_drew ?_ | refine blk_alloc ?_ _)); refine blk_put (cs := #[.string (⟨#[]⟩ : ByteArray), .int .i64 0, .int .u32 0, .int .u8 0, .int .i64 0]) ?_ 0 _ rfl; (with_reducible repeat (first | refine blk_drewN ?_ _ | refine blk_drew ?_ | refine blk_alloc ?_ _)); exact BK144.out) Tryz.underlying72 rfl kr_) rfl ?_
   exact ⟨er_, bl_⟩
  ·rw [if_neg c5] at H
   have c5b0 : (a0 == 2) = false := beq_eq_false_iff_ne.mpr c5
   have c5b1 : (a0 != 2) = true := bne_iff_ne.mpr c5
   by_cases c8 : a0 = 3
   ·rw [if_pos c8] at H
    have c8b0 : (a0 == 3) = true := beq_iff_eq.mpr c8
    have c8b1 : (a0 != 3) = false := bne_eq_false_iff_eq.mpr c8
    clear c8
    simp only [Option.some.injEq, Prod.mk.injEq] at H
    obtain ⟨rfl, rfl, rfl, rfl, rfl, rfl⟩ := H
    go_enter Tryz.func41, Tryz.ntmps41
    go_wp2_with (first | ((with_reducible refine gate_dst (N := 2) rfl ?_); refine box_event ?hg (N := 2) ?hd (cs := #[.string (⟨#[]⟩ : ByteArray), .int .i64 0, .int .u32 0, .int .u8 0, .int .i64 0]) (t := 72) ?hr ?_; (case hd => rfl); (case hg => rfl); (case hr => first | (go_simp; done) | (go_simp; rfl)); intro gb144 hg w9 hbox hb; have n0_ := Aside0.mk (below_step bl_ hb); have n1_ := Aside0.mk (hbox); have n2_ := Aside0.mk ((gs_ : w.heap.size ≤ gb144)); have n3_ := Aside0.mk ((gs_ : w.heap.size ≤ gb144)); clear HB; have HB := n0_; have BK144 := n1_; have GW144 := n2_; have GE144 := n3_; clear n0_ n1_ n2_ n3_; clear hb hbox hg; have hcz10_0 : w9.cell? ⟨gb144, 0, none⟩ = some (.string (⟨#[]⟩ : ByteArray)) := (blk_cell BK144.out 0).trans rfl; have hcz10_1 : w9.cell? ⟨gb144, 1, none⟩ = some (.int .i64 0) := (blk_cell BK144.out 1).trans rfl; have hcz10_2 : w9.cell? ⟨gb144, 2, none⟩ = some (.int .u32 0) := (blk_cell BK144.out 2).trans rfl; have hcz10_3 : w9.cell? ⟨gb144, 3, none⟩ = some (.int .u8 0) := (blk_cell BK144.out 3).trans rfl; have hcz10_4 : w9.cell? ⟨gb144, 4, none⟩ = some (.int .i64 0) := (blk_cell BK144.out 4).trans rfl; have hfz10_0 := blk_frozen BK144.out 0; have hfz10_1 := blk_frozen BK144.out 1; have hfz10_2 := blk_frozen BK144.out 2; have hfz10_3 := blk_frozen BK144.out 3; have hfz10_4 := blk_frozen BK144.out 4))
    refine bodyPost_ret (results_ct rfl _ _ gb144 72 #[.string (⟨#[105, 114]⟩ : ByteArray), .int .i64 8, .int .u32 285, .int .u8 105, .int .i64 3] (0, 0) _ rfl (by (with_reducible repeat (first | refine blk_drewN ?_ _ | refine blk_drew ?_ | refine blk_alloc ?_ _)); refine blk_put (cs := #[.string (⟨#[105, 114]⟩ : ByteArray), .int .i64 8, .int .u32 285, .int .u8 105, .int .i64 0]) ?_ 4 _ rfl; (with_reducible repeat (first | refine blk_drewN ?_ _ | refine blk_drew ?_ | refine blk_alloc ?_ _)); refine blk_put (cs := #[.string (⟨#[105, 114]⟩ : ByteArray), .int .i64 8, .int .u32 285, .int .u8 0, .int .i64 0]) ?_ 3 _ rfl; (with_reducible repeat (first | refine blk_drewN ?_ _ | refine blk_drew ?_ | refine blk_alloc ?_ _)); refine blk_put (cs := #[.string (⟨#[105, 114]⟩ : ByteArray), .int .i64 8, .int .u32 0, .int .u8 0, .int .i64 0]) ?_ 2 _ rfl; (with_reducible repeat (first | refine blk_drewN ?_ _ | refine blk_drew ?_ | refine blk_alloc ?_ _)); refine blk_put (cs := #[.string (⟨#[105, 114]⟩ : ByteArray), .int .i64 0, .int .u32 0, .int .u8 0, .int .i64 0]) ?_ 1 _ rfl; (with_reducible repeat (first | refine blk_drewN ?_ _ | refine blk_drew ?_ | refine blk_alloc ?_ _)); refine blk_put (cs := #[.string (⟨#[]⟩ : ByteArray), .int .i64 0, .int .u32 0, .int .u8 0, .int .i64 0]) ?_ 0 _ rfl; (with_reducible repeat (first | refine blk_drewN ?_ _ | refine blk_drew ?_ | refine blk_alloc ?_ _)); exact BK144.out) Tryz.underlying72 rfl kr_) rfl ?_
    exact ⟨er_, bl_⟩
   ·rw [if_neg c8] at H
    have c8b0 : (a0 == 3) = false := beq_eq_false_iff_ne.mpr c8
    have c8b1 : (a0 != 3) = true := bne_iff_ne.mpr c8
    by_cases c11 : a0 = 4
    ·rw [if_pos c11] at H
     have c11b0 : (a0 == 4) = true := beq_iff_eq.mpr c11
     have c11b1 : (a0 != 4) = false := bne_eq_false_iff_eq.mpr c11
     clear c11
     simp only [Option.some.injEq, Prod.mk.injEq] at H
     obtain ⟨rfl, rfl, rfl, rfl, rfl, rfl⟩ := H
     go_enter Tryz.func41, Tryz.ntmps41
     go_wp2_with (first | ((with_reducible refine gate_dst (N := 2) rfl ?_); refine box_event ?hg (N := 2) ?hd (cs := #[.string (⟨#[]⟩ : ByteArray), .int .i64 0, .int .u32 0, .int .u8 0, .int .i64 0]) (t := 72) ?hr ?_; (case hd => rfl); (case hg => rfl); (case hr => first | (go_simp; done) | (go_simp; rfl)); intro gb144 hg w12 hbox hb; have n0_ := Aside0.mk (below_step bl_ hb); have n1_ := Aside0.mk (hbox); have n2_ := Aside0.mk ((gs_ : w.heap.size ≤ gb144)); have n3_ := Aside0.mk ((gs_ : w.heap.size ≤ gb144)); clear HB; have HB := n0_; have BK144 := n1_; have GW144 := n2_; have GE144 := n3_; clear n0_ n1_ n2_ n3_; clear hb hbox hg; have hcz13_0 : w12.cell? ⟨gb144, 0, none⟩ = some (.string (⟨#[]⟩ : ByteArray)) := (blk_cell BK144.out 0).trans rfl; have hcz13_1 : w12.cell? ⟨gb144, 1, none⟩ = some (.int .i64 0) := (blk_cell BK144.out 1).trans rfl; have hcz13_2 : w12.cell? ⟨gb144, 2, none⟩ = some (.int .u32 0) := (blk_cell BK144.out 2).trans rfl; have hcz13_3 : w12.cell? ⟨gb144, 3, none⟩ = some (.int .u8 0) := (blk_cell BK144.out 3).trans rfl; have hcz13_4 : w12.cell? ⟨gb144, 4, none⟩ = some (.int .i64 0) := (blk_cell BK144.out 4).trans rfl; have hfz13_0 := blk_frozen BK144.out 0; have hfz13_1 := blk_frozen BK144.out 1; have hfz13_2 := blk_frozen BK144.out 2; have hfz13_3 := blk_frozen BK144.out 3; have hfz13_4 := blk_frozen BK144.out 4))
     refine bodyPost_ret (results_ct rfl _ _ gb144 72 #[.string (⟨#[105, 99]⟩ : ByteArray), .int .i64 8, .int .u32 285, .int .u8 105, .int .i64 4] (0, 0) _ rfl (by (with_reducible repeat (first | refine blk_drewN ?_ _ | refine blk_drew ?_ | refine blk_alloc ?_ _)); refine blk_put (cs := #[.string (⟨#[105, 99]⟩ : ByteArray), .int .i64 8, .int .u32 285, .int .u8 105, .int .i64 0]) ?_ 4 _ rfl; (with_reducible repeat (first | refine blk_drewN ?_ _ | refine blk_drew ?_ | refine blk_alloc ?_ _)); refine blk_put (cs := #[.string (⟨#[105, 99]⟩ : ByteArray), .int .i64 8, .int .u32 285, .int .u8 0, .int .i64 0]) ?_ 3 _ rfl; (with_reducible repeat (first | refine blk_drewN ?_ _ | refine blk_drew ?_ | refine blk_alloc ?_ _)); refine blk_put (cs := #[.string (⟨#[105, 99]⟩ : ByteArray), .int .i64 8, .int .u32 0, .int .u8 0, .int .i64 0]) ?_ 2 _ rfl; (with_reducible repeat (first | refine blk_drewN ?_ _ | refine blk_drew ?_ | refine blk_alloc ?_ _)); refine blk_put (cs := #[.string (⟨#[105, 99]⟩ : ByteArray), .int .i64 0, .int .u32 0, .int .u8 0, .int .i64 0]) ?_ 1 _ rfl; (with_reducible repeat (first | refine blk_drewN ?_ _ | refine blk_drew ?_ | refine blk_alloc ?_ _)); refine blk_put (cs := #[.string (⟨#[]⟩ : ByteArray), .int .i64 0, .int .u32 0, .int .u8 0, .int .i64 0]) ?_ 0 _ rfl; (with_reducible repeat (first | refine blk_drewN ?_ _ | refine blk_drew ?_ | refine blk_alloc ?_ _)); exact BK144.out) Tryz.underlying72 rfl kr_) rfl ?_
     exact ⟨er_, bl_⟩
    ·rw [if_neg c11] at H
     have c11b0 : (a0 == 4) = false := beq_eq_false_iff_ne.mpr c11
     have c11b1 : (a0 != 4) = true := bne_iff_ne.mpr c11
     by_cases c14 : a0 = 5
     ·rw [if_pos c14] at H
      have c14b0 : (a0 == 5) = true := beq_iff_eq.mpr c14
      have c14b1 : (a0 != 5) = false := bne_eq_false_iff_eq.mpr c14
      clear c14
      simp only [Option.some.injEq, Prod.mk.injEq] at H
      obtain ⟨rfl, rfl, rfl, rfl, rfl, rfl⟩ := H
      go_enter Tryz.func41, Tryz.ntmps41
      go_wp2_with (first | ((with_reducible refine gate_dst (N := 2) rfl ?_); refine box_event ?hg (N := 2) ?hd (cs := #[.string (⟨#[]⟩ : ByteArray), .int .i64 0, .int .u32 0, .int .u8 0, .int .i64 0]) (t := 72) ?hr ?_; (case hd => rfl); (case hg => rfl); (case hr => first | (go_simp; done) | (go_simp; rfl)); intro gb144 hg w15 hbox hb; have n0_ := Aside0.mk (below_step bl_ hb); have n1_ := Aside0.mk (hbox); have n2_ := Aside0.mk ((gs_ : w.heap.size ≤ gb144)); have n3_ := Aside0.mk ((gs_ : w.heap.size ≤ gb144)); clear HB; have HB := n0_; have BK144 := n1_; have GW144 := n2_; have GE144 := n3_; clear n0_ n1_ n2_ n3_; clear hb hbox hg; have hcz16_0 : w15.cell? ⟨gb144, 0, none⟩ = some (.string (⟨#[]⟩ : ByteArray)) := (blk_cell BK144.out 0).trans rfl; have hcz16_1 : w15.cell? ⟨gb144, 1, none⟩ = some (.int .i64 0) := (blk_cell BK144.out 1).trans rfl; have hcz16_2 : w15.cell? ⟨gb144, 2, none⟩ = some (.int .u32 0) := (blk_cell BK144.out 2).trans rfl; have hcz16_3 : w15.cell? ⟨gb144, 3, none⟩ = some (.int .u8 0) := (blk_cell BK144.out 3).trans rfl; have hcz16_4 : w15.cell? ⟨gb144, 4, none⟩ = some (.int .i64 0) := (blk_cell BK144.out 4).trans rfl; have hfz16_0 := blk_frozen BK144.out 0; have hfz16_1 := blk_frozen BK144.out 1; have hfz16_2 := blk_frozen BK144.out 2; have hfz16_3 := blk_frozen BK144.out 3; have hfz16_4 := blk_frozen BK144.out 4))
      refine bodyPost_ret (results_ct rfl _ _ gb144 72 #[.string (⟨#[98, 98]⟩ : ByteArray), .int .i64 8, .int .u32 285, .int .u8 98, .int .i64 4] (0, 0) _ rfl (by (with_reducible repeat (first | refine blk_drewN ?_ _ | refine blk_drew ?_ | refine blk_alloc ?_ _)); refine blk_put (cs := #[.string (⟨#[98, 98]⟩ : ByteArray), .int .i64 8, .int .u32 285, .int .u8 98, .int .i64 0]) ?_ 4 _ rfl; (with_reducible repeat (first | refine blk_drewN ?_ _ | refine blk_drew ?_ | refine blk_alloc ?_ _)); refine blk_put (cs := #[.string (⟨#[98, 98]⟩ : ByteArray), .int .i64 8, .int .u32 285, .int .u8 0, .int .i64 0]) ?_ 3 _ rfl; (with_reducible repeat (first | refine blk_drewN ?_ _ | refine blk_drew ?_ | refine blk_alloc ?_ _)); refine blk_put (cs := #[.string (⟨#[98, 98]⟩ : ByteArray), .int .i64 8, .int .u32 0, .int .u8 0, .int .i64 0]) ?_ 2 _ rfl; (with_reducible repeat (first | refine blk_drewN ?_ _ | refine blk_drew ?_ | refine blk_alloc ?_ _)); refine blk_put (cs := #[.string (⟨#[98, 98]⟩ : ByteArray), .int .i64 0, .int .u32 0, .int .u8 0, .int .i64 0]) ?_ 1 _ rfl; (with_reducible repeat (first | refine blk_drewN ?_ _ | refine blk_drew ?_ | refine blk_alloc ?_ _)); refine blk_put (cs := #[.string (⟨#[]⟩ : ByteArray), .int .i64 0, .int .u32 0, .int .u8 0, .int .i64 0]) ?_ 0 _ rfl; (with_reducible repeat (first | refine blk_drewN ?_ _ | refine blk_drew ?_ | refine blk_alloc ?_ _)); exact BK144.out) Tryz.underlying72 rfl kr_) rfl ?_
      exact ⟨er_, bl_⟩
     ·rw [if_neg c14] at H
      have c14b0 : (a0 == 5) = false := beq_eq_false_iff_ne.mpr c14
      have c14b1 : (a0 != 5) = true := bne_iff_ne.mpr c14
      by_cases c17 : a0 = 6
      ·rw [if_pos c17] at H
       have c17b0 : (a0 == 6) = true := beq_iff_eq.mpr c17
       have c17b1 : (a0 != 6) = false := bne_eq_false_iff_eq.mpr c17
       clear c17
       simp only [Option.some.injEq, Prod.mk.injEq] at H
       obtain ⟨rfl, rfl, rfl, rfl, rfl, rfl⟩ := H
       go_enter Tryz.func41, Tryz.ntmps41
       go_wp2_with (first | ((with_reducible refine gate_dst (N := 2) rfl ?_); refine box_event ?hg (N := 2) ?hd (cs := #[.string (⟨#[]⟩ : ByteArray), .int .i64 0, .int .u32 0, .int .u8 0, .int .i64 0]) (t := 72) ?hr ?_; (case hd => rfl); (case hg => rfl); (case hr => first | (go_simp; done) | (go_simp; rfl)); intro gb144 hg w18 hbox hb; have n0_ := Aside0.mk (below_step bl_ hb); have n1_ := Aside0.mk (hbox); have n2_ := Aside0.mk ((gs_ : w.heap.size ≤ gb144)); have n3_ := Aside0.mk ((gs_ : w.heap.size ≤ gb144)); clear HB; have HB := n0_; have BK144 := n1_; have GW144 := n2_; have GE144 := n3_; clear n0_ n1_ n2_ n3_; clear hb hbox hg; have hcz19_0 : w18.cell? ⟨gb144, 0, none⟩ = some (.string (⟨#[]⟩ : ByteArray)) := (blk_cell BK144.out 0).trans rfl; have hcz19_1 : w18.cell? ⟨gb144, 1, none⟩ = some (.int .i64 0) := (blk_cell BK144.out 1).trans rfl; have hcz19_2 : w18.cell? ⟨gb144, 2, none⟩ = some (.int .u32 0) := (blk_cell BK144.out 2).trans rfl; have hcz19_3 : w18.cell? ⟨gb144, 3, none⟩ = some (.int .u8 0) := (blk_cell BK144.out 3).trans rfl; have hcz19_4 : w18.cell? ⟨gb144, 4, none⟩ = some (.int .i64 0) := (blk_cell BK144.out 4).trans rfl; have hfz19_0 := blk_frozen BK144.out 0; have hfz19_1 := blk_frozen BK144.out 1; have hfz19_2 := blk_frozen BK144.out 2; have hfz19_3 := blk_frozen BK144.out 3; have hfz19_4 := blk_frozen BK144.out 4))
       refine bodyPost_ret (results_ct rfl _ _ gb144 72 #[.string (⟨#[107, 112]⟩ : ByteArray), .int .i64 8, .int .u32 285, .int .u8 112, .int .i64 4] (0, 0) _ rfl (by (with_reducible repeat (first | refine blk_drewN ?_ _ | refine blk_drew ?_ | refine blk_alloc ?_ _)); refine blk_put (cs := #[.string (⟨#[107, 112]⟩ : ByteArray), .int .i64 8, .int .u32 285, .int .u8 112, .int .i64 0]) ?_ 4 _ rfl; (with_reducible repeat (first | refine blk_drewN ?_ _ | refine blk_drew ?_ | refine blk_alloc ?_ _)); refine blk_put (cs := #[.string (⟨#[107, 112]⟩ : ByteArray), .int .i64 8, .int .u32 285, .int .u8 0, .int .i64 0]) ?_ 3 _ rfl; (with_reducible repeat (first | refine blk_drewN ?_ _ | refine blk_drew ?_ | refine blk_alloc ?_ _)); refine blk_put (cs := #[.string (⟨#[107, 112]⟩ : ByteArray), .int .i64 8, .int .u32 0, .int .u8 0, .int .i64 0]) ?_ 2 _ rfl; (with_reducible repeat (first | refine blk_drewN ?_ _ | refine blk_drew ?_ | refine blk_alloc ?_ _)); refine blk_put (cs := #[.string (⟨#[107, 112]⟩ : ByteArray), .int .i64 0, .int .u32 0, .int .u8 0, .int .i64 0]) ?_ 1 _ rfl; (with_reducible repeat (first | refine blk_drewN ?_ _ | refine blk_drew ?_ | refine blk_alloc ?_ _)); refine blk_put (cs := #[.string (⟨#[]⟩ : ByteArray), .int .i64 0, .int .u32 0, .int .u8 0, .int .i64 0]) ?_ 0 _ rfl; (with_reducible repeat (first | refine blk_drewN ?_ _ | refine blk_drew ?_ | refine blk_alloc ?_ _)); exact BK144.out) Tryz.underlying72 rfl kr_) rfl ?_
       exact ⟨er_, bl_⟩
      ·rw [if_neg c17] at H
       have c17b0 : (a0 == 6) = false := beq_eq_false_iff_ne.mpr c17
       have c17b1 : (a0 != 6) = true := bne_iff_ne.mpr c17
       simp only [Option.some.injEq, Prod.mk.injEq] at H
       obtain ⟨rfl, rfl, rfl, rfl, rfl, rfl⟩ := H
       go_enter Tryz.func41, Tryz.ntmps41
       go_wp2_with (first | ((with_reducible refine gate_dst (N := 2) rfl ?_); refine box_event ?hg (N := 2) ?hd (cs := #[.string (⟨#[]⟩ : ByteArray), .int .i64 0, .int .u32 0, .int .u8 0, .int .i64 0]) (t := 72) ?hr ?_; (case hd => rfl); (case hg => rfl); (case hr => first | (go_simp; done) | (go_simp; rfl)); intro gb144 hg w20 hbox hb; have n0_ := Aside0.mk (below_step bl_ hb); have n1_ := Aside0.mk (hbox); have n2_ := Aside0.mk ((gs_ : w.heap.size ≤ gb144)); have n3_ := Aside0.mk ((gs_ : w.heap.size ≤ gb144)); clear HB; have HB := n0_; have BK144 := n1_; have GW144 := n2_; have GE144 := n3_; clear n0_ n1_ n2_ n3_; clear hb hbox hg; have hcz21_0 : w20.cell? ⟨gb144, 0, none⟩ = some (.string (⟨#[]⟩ : ByteArray)) := (blk_cell BK144.out 0).trans rfl; have hcz21_1 : w20.cell? ⟨gb144, 1, none⟩ = some (.int .i64 0) := (blk_cell BK144.out 1).trans rfl; have hcz21_2 : w20.cell? ⟨gb144, 2, none⟩ = some (.int .u32 0) := (blk_cell BK144.out 2).trans rfl; have hcz21_3 : w20.cell? ⟨gb144, 3, none⟩ = some (.int .u8 0) := (blk_cell BK144.out 3).trans rfl; have hcz21_4 : w20.cell? ⟨gb144, 4, none⟩ = some (.int .i64 0) := (blk_cell BK144.out 4).trans rfl; have hfz21_0 := blk_frozen BK144.out 0; have hfz21_1 := blk_frozen BK144.out 1; have hfz21_2 := blk_frozen BK144.out 2; have hfz21_3 := blk_frozen BK144.out 3; have hfz21_4 := blk_frozen BK144.out 4))
       refine bodyPost_ret (results_ct rfl _ _ gb144 72 #[.string (⟨#[]⟩ : ByteArray), .int .i64 0, .int .u32 0, .int .u8 0, .int .i64 0] (0, 0) _ rfl (by (with_reducible repeat (first | refine blk_drewN ?_ _ | refine blk_drew ?_ | refine blk_alloc ?_ _)); refine blk_put (cs := #[.string (⟨#[]⟩ : ByteArray), .int .i64 0, .int .u32 0, .int .u8 0, .int .i64 0]) ?_ 4 _ rfl; (with_reducible repeat (first | refine blk_drewN ?_ _ | refine blk_drew ?_ | refine blk_alloc ?_ _)); refine blk_put (cs := #[.string (⟨#[]⟩ : ByteArray), .int .i64 0, .int .u32 0, .int .u8 0, .int .i64 0]) ?_ 3 _ rfl; (with_reducible repeat (first | refine blk_drewN ?_ _ | refine blk_drew ?_ | refine blk_alloc ?_ _)); refine blk_put (cs := #[.string (⟨#[]⟩ : ByteArray), .int .i64 0, .int .u32 0, .int .u8 0, .int .i64 0]) ?_ 2 _ rfl; (with_reducible repeat (first | refine blk_drewN ?_ _ | refine blk_drew ?_ | refine blk_alloc ?_ _)); refine blk_put (cs := #[.string (⟨#[]⟩ : ByteArray), .int .i64 0, .int .u32 0, .int .u8 0, .int .i64 0]) ?_ 1 _ rfl; (with_reducible repeat (first | refine blk_drewN ?_ _ | refine blk_drew ?_ | refine blk_alloc ?_ _)); refine blk_put (cs := #[.string (⟨#[]⟩ : ByteArray), .int .i64 0, .int .u32 0, .int .u8 0, .int .i64 0]) ?_ 0 _ rfl; (with_reducible repeat (first | refine blk_drewN ?_ _ | refine blk_drew ?_ | refine blk_alloc ?_ _)); exact BK144.out) Tryz.underlying72 rfl kr_) rfl ?_
       exact ⟨er_, bl_⟩
def gambrelref09_Some.f (a0_0 : Int) (a0_1 : Int) (a0_2 : Int) : Option (Int × Int × Int) := (gambrelref09_Of.f (wrap64 (1 + (Int.tmod (wrap64 (a0_0)) 6)))).bind fun bt611 => (if bt611.2.2.2.2.1 = 0 then (none) else (some (wrap64 (1 + (Int.tmod (wrap64 (a0_0)) 6)), wrap64 (1 + (Int.tmod (wrap64 (a0_1)) 8)), wrap64 (1 + (Int.tmod (wrap64 (a0_2)) bt611.2.2.2.2.1)))))
set_option maxHeartbeats 8000000 in
set_option maxRecDepth 100000 in
theorem gambrelref09_Some.calls (a0_0 : Int) (a0_1 : Int) (a0_2 : Int) (r1 : Int) (r2 : Int) (r3 : Int) (w : World) (h : gambrelref09_Some.f a0_0 a0_1 a0_2 = some (r1, r2, r3)) :
  Calls Tryz.prog 24 #[.agg #[.int .u8 a0_0, .int .u8 a0_1, .int .u8 a0_2]] w fun e w' => e = .returned (.agg #[.int .i64 r1, .int .i64 r2, .int .i64 r3]) ∧ Below w.heap.size w w' := by
 have hu38 := Tryz.underlying38
 have hu23 := Tryz.underlying23
 have hu72 := Tryz.underlying72
 have HB := Aside0.mk (Below.refl w.heap.size w)
 have H : ((gambrelref09_Of.f (wrap64 (1 + (Int.tmod (wrap64 (a0_0)) 6)))).bind fun bt611 => (if bt611.2.2.2.2.1 = 0 then (none) else (some (wrap64 (1 + (Int.tmod (wrap64 (a0_0)) 6)), wrap64 (1 + (Int.tmod (wrap64 (a0_1)) 8)), wrap64 (1 + (Int.tmod (wrap64 (a0_2)) bt611.2.2.2.2.1)))))) = some (r1, r2, r3) := h
 clear h
 replace H := Option.bind_eq_some_iff.mp H
 obtain ⟨⟨t611, t612, t613, t614, t615, t616⟩, A20, H⟩ := H
 replace H : (if t615 = 0 then (none) else (some (wrap64 (1 + (Int.tmod (wrap64 (a0_0)) 6)), wrap64 (1 + (Int.tmod (wrap64 (a0_1)) 8)), wrap64 (1 + (Int.tmod (wrap64 (a0_2)) t615))))) = some (r1, r2, r3) := H
 have A2 := Aside0.mk A20
 clear A20
 by_cases c3 : t615 = 0
 ·rw [if_pos c3] at H
  exact absurd H (by simp)
 ·rw [if_neg c3] at H
  have c3b0 : (t615 == 0) = false := beq_eq_false_iff_ne.mpr c3
  have c3b1 : (t615 != 0) = true := bne_iff_ne.mpr c3
  simp only [Option.some.injEq, Prod.mk.injEq] at H
  obtain ⟨rfl, rfl, rfl⟩ := H
  go_enter Tryz.func24, Tryz.ntmps24
  go_wp2_with (first | ((with_reducible refine gate_dst (N := 1) rfl ?_); refine box_event ?hg (N := 1) ?hd (cs := #[.int .u8 a0_0, .int .u8 a0_1, .int .u8 a0_2]) (t := 38) ?hr ?_; (case hd => rfl); (case hg => rfl); (case hr => first | (go_simp; done) | (go_simp; rfl)); intro gb608 hg w4 hbox hb; have n0_ := Aside0.mk (below_step bl_ hb); have n1_ := Aside0.mk (hbox); have n2_ := Aside0.mk ((gs_ : w.heap.size ≤ gb608)); have n3_ := Aside0.mk ((gs_ : w.heap.size ≤ gb608)); clear HB; have HB := n0_; have BK608 := n1_; have GW608 := n2_; have GE608 := n3_; clear n0_ n1_ n2_ n3_; clear hb hbox hg) | ((with_reducible refine gate_dst (N := 2) rfl ?_); refine box_event ?hg (N := 2) ?hd (cs := #[.int .i64 0, .int .i64 0, .int .i64 0]) (t := 23) ?hr ?_; (case hd => rfl); (case hg => rfl); (case hr => first | (go_simp; done) | (go_simp; rfl)); intro gb609 hg w5 hbox hb; have n0_ := Aside0.mk (blk_below (g := gb608) (o := .cells #[.int .u8 a0_0, .int .u8 a0_1, .int .u8 a0_2] 38 (0, 0)) bk_ hb); have n1_ := Aside0.mk (below_step bl_ hb); have n2_ := Aside0.mk (hbox); have n3_ := Aside0.mk ((gs_ : w.heap.size ≤ gb609)); have n4_ := Aside0.mk ((gs_ : w.heap.size ≤ gb609)); have n5_ := Aside0.mk ((by rw [hg]; exact Nat.ne_of_lt (blk_lt (g := gb608) (o := .cells #[.int .u8 a0_0, .int .u8 a0_1, .int .u8 a0_2] 38 (0, 0)) bk_) : gb608 ≠ gb609)); have n6_ := Aside0.mk ((by rw [hg]; exact Nat.ne_of_gt (blk_lt (g := gb608) (o := .cells #[.int .u8 a0_0, .int .u8 a0_1, .int .u8 a0_2] 38 (0, 0)) bk_) : gb609 ≠ gb608)); clear BK608; clear HB; have BK608 := n0_; have HB := n1_; have BK609 := n2_; have GW609 := n3_; have GE609 := n4_; have NB608_609 := n5_; have NB609_608 := n6_; clear n0_ n1_ n2_ n3_ n4_ n5_ n6_; clear hb hbox hg; have hnb6 := NB608_609.out; have hnc6 := NB609_608.out; have hcz7_0 : w5.cell? ⟨gb608, 0, none⟩ = some (.int .u8 a0_0) := (blk_cell BK608.out 0).trans rfl; have hcz7_1 : w5.cell? ⟨gb608, 1, none⟩ = some (.int .u8 a0_1) := (blk_cell BK608.out 1).trans rfl; have hcz7_2 : w5.cell? ⟨gb608, 2, none⟩ = some (.int .u8 a0_2) := (blk_cell BK608.out 2).trans rfl; have hfz7_0 := blk_frozen BK608.out 0; have hfz7_1 := blk_frozen BK608.out 1; have hfz7_2 := blk_frozen BK608.out 2) | ((with_reducible refine gate_dst (N := 3) rfl ?_); refine box_event ?hg (N := 3) ?hd (cs := #[.int .i64 0, .int .i64 0, .int .i64 0]) (t := 23) ?hr ?_; (case hd => rfl); (case hg => rfl); (case hr => first | (go_simp; done) | (go_simp; rfl)); intro gb610 hg w8 hbox hb; have n0_ := Aside0.mk (blk_below (g := gb608) (o := .cells #[.int .u8 a0_0, .int .u8 a0_1, .int .u8 a0_2] 38 (0, 0)) bk_ hb); have n1_ := Aside0.mk (blk_below (g := gb609) (o := .cells #[.int .i64 0, .int .i64 0, .int .i64 0] 23 (0, 0)) bk_ hb); have n2_ := Aside0.mk (below_step bl_ hb); have n3_ := Aside0.mk (hbox); have n4_ := Aside0.mk ((gs_ : w.heap.size ≤ gb610)); have n5_ := Aside0.mk ((gs_ : w.heap.size ≤ gb610)); have n6_ := Aside0.mk ((by rw [hg]; exact Nat.ne_of_lt (blk_lt (g := gb608) (o := .cells #[.int .u8 a0_0, .int .u8 a0_1, .int .u8 a0_2] 38 (0, 0)) bk_) : gb608 ≠ gb610)); have n7_ := Aside0.mk ((by rw [hg]; exact Nat.ne_of_gt (blk_lt (g := gb608) (o := .cells #[.int .u8 a0_0, .int .u8 a0_1, .int .u8 a0_2] 38 (0, 0)) bk_) : gb610 ≠ gb608)); have n8_ := Aside0.mk ((by rw [hg]; exact Nat.ne_of_lt (blk_lt (g := gb609) (o := .cells #[.int .i64 0, .int .i64 0, .int .i64 0] 23 (0, 0)) bk_) : gb609 ≠ gb610)); have n9_ := Aside0.mk ((by rw [hg]; exact Nat.ne_of_gt (blk_lt (g := gb609) (o := .cells #[.int .i64 0, .int .i64 0, .int .i64 0] 23 (0, 0)) bk_) : gb610 ≠ gb609)); clear BK608; clear BK609; clear HB; have BK608 := n0_; have BK609 := n1_; have HB := n2_; have BK610 := n3_; have GW610 := n4_; have GE610 := n5_; have NB608_610 := n6_; have NB610_608 := n7_; have NB609_610 := n8_; have NB610_609 := n9_; clear n0_ n1_ n2_ n3_ n4_ n5_ n6_ n7_ n8_ n9_; clear hb hbox hg; have hnb9 := NB610_608.out; have hnc9 := NB608_610.out; have hnb10 := NB610_609.out; have hnc10 := NB609_610.out; have hcz11_0 : w8.cell? ⟨gb610, 0, none⟩ = some (.int .i64 0) := (blk_cell BK610.out 0).trans rfl; have hcz11_1 : w8.cell? ⟨gb610, 1, none⟩ = some (.int .i64 0) := (blk_cell BK610.out 1).trans rfl; have hcz11_2 : w8.cell? ⟨gb610, 2, none⟩ = some (.int .i64 0) := (blk_cell BK610.out 2).trans rfl; have hfz11_0 := blk_frozen BK610.out 0; have hfz11_1 := blk_frozen BK610.out 1; have hfz11_2 := blk_frozen BK610.out 2) | ((with_reducible refine gate_callee (f := 41) rfl ?_); refine goesL_ (some 20) rfl rfl Tryz.func41 kr_ rfl #[.int .i64 (wrap64 (1 + (Int.tmod (wrap64 (a0_0)) 6)))] rfl ar_ ?_; (with_reducible refine (gambrelref09_Of.calls (wrap64 (1 + (Int.tmod (wrap64 (a0_0)) 6))) t611 t612 t613 t614 t615 t616 _ A2.out).mono ?_); rintro e w12 ⟨rfl, hb⟩; refine ⟨_, rfl, ?_⟩; have n0_ := Aside0.mk (blk_below (g := gb608) (o := .cells #[.int .u8 a0_0, .int .u8 a0_1, .int .u8 a0_2] 38 (0, 0)) (by (with_reducible repeat (first | refine blk_drewN ?_ _ | refine blk_drew ?_ | refine blk_alloc ?_ _)); refine blk_far ?_ NB608_610.out _; (with_reducible repeat (first | refine blk_drewN ?_ _ | refine blk_drew ?_ | refine blk_alloc ?_ _)); refine blk_far ?_ NB608_610.out _; (with_reducible repeat (first | refine blk_drewN ?_ _ | refine blk_drew ?_ | refine blk_alloc ?_ _)); refine blk_far ?_ NB608_610.out _; (with_reducible repeat (first | refine blk_drewN ?_ _ | refine blk_drew ?_ | refine blk_alloc ?_ _)); exact BK608.out) hb); have n1_ := Aside0.mk (blk_below (g := gb609) (o := .cells #[.int .i64 0, .int .i64 0, .int .i64 0] 23 (0, 0)) (by (with_reducible repeat (first | refine blk_drewN ?_ _ | refine blk_drew ?_ | refine blk_alloc ?_ _)); refine blk_far ?_ NB609_610.out _; (with_reducible repeat (first | refine blk_drewN ?_ _ | refine blk_drew ?_ | refine blk_alloc ?_ _)); refine blk_far ?_ NB609_610.out _; (with_reducible repeat (first | refine blk_drewN ?_ _ | refine blk_drew ?_ | refine blk_alloc ?_ _)); refine blk_far ?_ NB609_610.out _; (with_reducible repeat (first | refine blk_drewN ?_ _ | refine blk_drew ?_ | refine blk_alloc ?_ _)); exact BK609.out) hb); have n2_ := Aside0.mk (blk_below (g := gb610) (o := .cells #[.int .i64 (wrap64 (1 + (Int.tmod (wrap64 (a0_0)) 6))), .int .i64 (wrap64 (1 + (Int.tmod (wrap64 (a0_1)) 8))), .int .i64 0] 23 (0, 0)) (by (with_reducible repeat (first | refine blk_drewN ?_ _ | refine blk_drew ?_ | refine blk_alloc ?_ _)); refine blk_put (cs := #[.int .i64 (wrap64 (1 + (Int.tmod (wrap64 (a0_0)) 6))), .int .i64 (wrap64 (1 + (Int.tmod (wrap64 (a0_1)) 8))), .int .i64 0]) ?_ 2 _ rfl; (with_reducible repeat (first | refine blk_drewN ?_ _ | refine blk_drew ?_ | refine blk_alloc ?_ _)); refine blk_put (cs := #[.int .i64 (wrap64 (1 + (Int.tmod (wrap64 (a0_0)) 6))), .int .i64 0, .int .i64 0]) ?_ 1 _ rfl; (with_reducible repeat (first | refine blk_drewN ?_ _ | refine blk_drew ?_ | refine blk_alloc ?_ _)); refine blk_put (cs := #[.int .i64 0, .int .i64 0, .int .i64 0]) ?_ 0 _ rfl; (with_reducible repeat (first | refine blk_drewN ?_ _ | refine blk_drew ?_ | refine blk_alloc ?_ _)); exact BK610.out) hb); have n3_ := Aside0.mk (below_step bl_ hb); clear BK608; clear BK609; clear BK610; clear HB; have BK608 := n0_; have BK609 := n1_; have BK610 := n2_; have HB := n3_; clear n0_ n1_ n2_ n3_; (try clear hb); (try clear hb2); (try clear hk); (try clear hi)) | ((with_reducible refine gate_dst (N := 4) rfl ?_); refine box_event ?hg (N := 4) ?hd (cs := #[.string (⟨#[]⟩ : ByteArray), .int .i64 0, .int .u32 0, .int .u8 0, .int .i64 0]) (t := 72) ?hr ?_; (case hd => rfl); (case hg => rfl); (case hr => first | (go_simp; done) | (go_simp; rfl)); intro gb617 hg w13 hbox hb; have n0_ := Aside0.mk (blk_below (g := gb608) (o := .cells #[.int .u8 a0_0, .int .u8 a0_1, .int .u8 a0_2] 38 (0, 0)) bk_ hb); have n1_ := Aside0.mk (blk_below (g := gb609) (o := .cells #[.int .i64 0, .int .i64 0, .int .i64 0] 23 (0, 0)) bk_ hb); have n2_ := Aside0.mk (blk_below (g := gb610) (o := .cells #[.int .i64 (wrap64 (1 + (Int.tmod (wrap64 (a0_0)) 6))), .int .i64 (wrap64 (1 + (Int.tmod (wrap64 (a0_1)) 8))), .int .i64 0] 23 (0, 0)) bk_ hb); have n3_ := Aside0.mk (below_step bl_ hb); have n4_ := Aside0.mk (hbox); have n5_ := Aside0.mk ((gs_ : w.heap.size ≤ gb617)); have n6_ := Aside0.mk ((gs_ : w.heap.size ≤ gb617)); have n7_ := Aside0.mk ((by rw [hg]; exact Nat.ne_of_lt (blk_lt (g := gb608) (o := .cells #[.int .u8 a0_0, .int .u8 a0_1, .int .u8 a0_2] 38 (0, 0)) bk_) : gb608 ≠ gb617)); have n8_ := Aside0.mk ((by rw [hg]; exact Nat.ne_of_gt (blk_lt (g := gb608) (o := .cells #[.int .u8 a0_0, .int .u8 a0_1, .int .u8 a0_2] 38 (0, 0)) bk_) : gb617 ≠ gb608)); have n9_ := Aside0.mk ((by rw [hg]; exact Nat.ne_of_lt (blk_lt (g := gb609) (o := .cells #[.int .i64 0, .int .i64 0, .int .i64 0] 23 (0, 0)) bk_) : gb609 ≠ gb617)); have n10_ := Aside0.mk ((by rw [hg]; exact Nat.ne_of_gt (blk_lt (g := gb609) (o := .cells #[.int .i64 0, .int .i64 0, .int .i64 0] 23 (0, 0)) bk_) : gb617 ≠ gb609)); have n11_ := Aside0.mk ((by rw [hg]; exact Nat.ne_of_lt (blk_lt (g := gb610) (o := .cells #[.int .i64 (wrap64 (1 + (Int.tmod (wrap64 (a0_0)) 6))), .int .i64 (wrap64 (1 + (Int.tmod (wrap64 (a0_1)) 8))), .int .i64 0] 23 (0, 0)) bk_) : gb610 ≠ gb617)); have n12_ := Aside0.mk ((by rw [hg]; exact Nat.ne_of_gt (blk_lt (g := gb610) (o := .cells #[.int .i64 (wrap64 (1 + (Int.tmod (wrap64 (a0_0)) 6))), .int .i64 (wrap64 (1 + (Int.tmod (wrap64 (a0_1)) 8))), .int .i64 0] 23 (0, 0)) bk_) : gb617 ≠ gb610)); clear BK608; clear BK609; clear BK610; clear HB; have BK608 := n0_; have BK609 := n1_; have BK610 := n2_; have HB := n3_; have BK617 := n4_; have GW617 := n5_; have GE617 := n6_; have NB608_617 := n7_; have NB617_608 := n8_; have NB609_617 := n9_; have NB617_609 := n10_; have NB610_617 := n11_; have NB617_610 := n12_; clear n0_ n1_ n2_ n3_ n4_ n5_ n6_ n7_ n8_ n9_ n10_ n11_ n12_; clear hb hbox hg; have hnb14 := NB617_608.out; have hnc14 := NB608_617.out; have hnb15 := NB617_609.out; have hnc15 := NB609_617.out; have hnb16 := NB617_610.out; have hnc16 := NB610_617.out; have hcz17_0 : w13.cell? ⟨gb617, 0, none⟩ = some (.string (⟨#[]⟩ : ByteArray)) := (blk_cell BK617.out 0).trans rfl; have hcz17_1 : w13.cell? ⟨gb617, 1, none⟩ = some (.int .i64 0) := (blk_cell BK617.out 1).trans rfl; have hcz17_2 : w13.cell? ⟨gb617, 2, none⟩ = some (.int .u32 0) := (blk_cell BK617.out 2).trans rfl; have hcz17_3 : w13.cell? ⟨gb617, 3, none⟩ = some (.int .u8 0) := (blk_cell BK617.out 3).trans rfl; have hcz17_4 : w13.cell? ⟨gb617, 4, none⟩ = some (.int .i64 0) := (blk_cell BK617.out 4).trans rfl; have hfz17_0 := blk_frozen BK617.out 0; have hfz17_1 := blk_frozen BK617.out 1; have hfz17_2 := blk_frozen BK617.out 2; have hfz17_3 := blk_frozen BK617.out 3; have hfz17_4 := blk_frozen BK617.out 4; have hcz18_0 : w13.cell? ⟨gb608, 0, none⟩ = some (.int .u8 a0_0) := (blk_cell BK608.out 0).trans rfl; have hcz18_1 : w13.cell? ⟨gb608, 1, none⟩ = some (.int .u8 a0_1) := (blk_cell BK608.out 1).trans rfl; have hcz18_2 : w13.cell? ⟨gb608, 2, none⟩ = some (.int .u8 a0_2) := (blk_cell BK608.out 2).trans rfl; have hfz18_0 := blk_frozen BK608.out 0; have hfz18_1 := blk_frozen BK608.out 1; have hfz18_2 := blk_frozen BK608.out 2; have hcz19_0 : w13.cell? ⟨gb610, 0, none⟩ = some (.int .i64 (wrap64 (1 + (Int.tmod (wrap64 (a0_0)) 6)))) := (blk_cell BK610.out 0).trans rfl; have hcz19_1 : w13.cell? ⟨gb610, 1, none⟩ = some (.int .i64 (wrap64 (1 + (Int.tmod (wrap64 (a0_1)) 8)))) := (blk_cell BK610.out 1).trans rfl; have hcz19_2 : w13.cell? ⟨gb610, 2, none⟩ = some (.int .i64 0) := (blk_cell BK610.out 2).trans rfl; have hfz19_0 := blk_frozen BK610.out 0; have hfz19_1 := blk_frozen BK610.out 1; have hfz19_2 := blk_frozen BK610.out 2; have hcz20_0 : w13.cell? ⟨gb609, 0, none⟩ = some (.int .i64 0) := (blk_cell BK609.out 0).trans rfl; have hcz20_1 : w13.cell? ⟨gb609, 1, none⟩ = some (.int .i64 0) := (blk_cell BK609.out 1).trans rfl; have hcz20_2 : w13.cell? ⟨gb609, 2, none⟩ = some (.int .i64 0) := (blk_cell BK609.out 2).trans rfl; have hfz20_0 := blk_frozen BK609.out 0; have hfz20_1 := blk_frozen BK609.out 1; have hfz20_2 := blk_frozen BK609.out 2))
  refine bodyPost_ret (results_cell_row rfl _ _ gb609 23 #[.int .i64 (wrap64 (1 + (Int.tmod (wrap64 (a0_0)) 6))), .int .i64 (wrap64 (1 + (Int.tmod (wrap64 (a0_1)) 8))), .int .i64 (wrap64 (1 + (Int.tmod (wrap64 (a0_2)) t615)))] (0, 0) _ rfl (by (with_reducible repeat (first | refine blk_drewN ?_ _ | refine blk_drew ?_ | refine blk_alloc ?_ _)); refine blk_put (cs := #[.int .i64 (wrap64 (1 + (Int.tmod (wrap64 (a0_0)) 6))), .int .i64 (wrap64 (1 + (Int.tmod (wrap64 (a0_1)) 8))), .int .i64 0]) ?_ 2 _ rfl; (with_reducible repeat (first | refine blk_drewN ?_ _ | refine blk_drew ?_ | refine blk_alloc ?_ _)); refine blk_put (cs := #[.int .i64 (wrap64 (1 + (Int.tmod (wrap64 (a0_0)) 6))), .int .i64 0, .int .i64 0]) ?_ 1 _ rfl; (with_reducible repeat (first | refine blk_drewN ?_ _ | refine blk_drew ?_ | refine blk_alloc ?_ _)); refine blk_put (cs := #[.int .i64 0, .int .i64 0, .int .i64 0]) ?_ 0 _ rfl; (with_reducible repeat (first | refine blk_drewN ?_ _ | refine blk_drew ?_ | refine blk_alloc ?_ _)); refine blk_far ?_ NB609_610.out _; (with_reducible repeat (first | refine blk_drewN ?_ _ | refine blk_drew ?_ | refine blk_alloc ?_ _)); refine blk_far ?_ NB609_617.out _; (with_reducible repeat (first | refine blk_drewN ?_ _ | refine blk_drew ?_ | refine blk_alloc ?_ _)); refine blk_far ?_ NB609_617.out _; (with_reducible repeat (first | refine blk_drewN ?_ _ | refine blk_drew ?_ | refine blk_alloc ?_ _)); refine blk_far ?_ NB609_617.out _; (with_reducible repeat (first | refine blk_drewN ?_ _ | refine blk_drew ?_ | refine blk_alloc ?_ _)); refine blk_far ?_ NB609_617.out _; (with_reducible repeat (first | refine blk_drewN ?_ _ | refine blk_drew ?_ | refine blk_alloc ?_ _)); refine blk_far ?_ NB609_617.out _; (with_reducible repeat (first | refine blk_drewN ?_ _ | refine blk_drew ?_ | refine blk_alloc ?_ _)); exact BK609.out) Tryz.underlying23 rfl kr_) rfl ?_
  exact ⟨er_, bl_⟩
def profile_Of.f (a0 : Int) : Option (ByteArray × Int × Int × Int × Int × Bool) :=
 if a0 = 1 then some (⟨#[106, 118]⟩, 8, 285, 106, 4, true) else if a0 = 2 then some (⟨#[106, 99]⟩, 16, 69643, 106, 4, true)
 else if a0 = 3 then some (⟨#[105, 114]⟩, 8, 285, 105, 3, true) else if a0 = 4 then some (⟨#[105, 99]⟩, 8, 285, 105, 4, true)
 else if a0 = 5 then some (⟨#[98, 98]⟩, 8, 285, 98, 4, true) else if a0 = 6 then some (⟨#[107, 112]⟩, 8, 285, 112, 4, true)
 else some (⟨#[]⟩, 0, 0, 0, 0, false)
theorem profile_Of.low (a0 : Int) (w : World) (h : a0 < 1) :
  Calls Tryz.prog 73 #[.int .i64 a0] w fun e w' => e = .returned (.tuple #[.agg #[.string ⟨#[]⟩, .int .i64 0, .int .u32 0, .int .u8 0, .int .i64 0], .bool false]) ∧ Below w.heap.size w w' := by
 go_enter Tryz.func73, Tryz.ntmps73
 go_wp2
 exact bodyPost_ret (v := .tuple #[.agg #[.string ⟨#[]⟩, .int .i64 0, .int .u32 0, .int .u8 0, .int .i64 0], .bool false]) (by simp [results, Tryz.results73, go_sem]) rfl ⟨rfl, (Below.refl _ _).alloc (Nat.le_refl _) _⟩
theorem profile_Of.high (a0 : Int) (w : World) (h : 6 < a0) :
  Calls Tryz.prog 73 #[.int .i64 a0] w fun e w' => e = .returned (.tuple #[.agg #[.string ⟨#[]⟩, .int .i64 0, .int .u32 0, .int .u8 0, .int .i64 0], .bool false]) ∧ Below w.heap.size w w' := by
 have h1 : ¬ a0 < 1 := by omega
 go_enter Tryz.func73, Tryz.ntmps73
 go_wp2
 exact bodyPost_ret (v := .tuple #[.agg #[.string ⟨#[]⟩, .int .i64 0, .int .u32 0, .int .u8 0, .int .i64 0], .bool false]) (by simp [results, Tryz.results73, go_sem]) rfl ⟨rfl, (Below.refl _ _).alloc (Nat.le_refl _) _⟩
def profile_table.v : Value := .agg #[.string ⟨#[106, 118]⟩, .int .i64 8, .int .u32 285, .int .u8 106, .int .i64 4, .string ⟨#[106, 99]⟩, .int .i64 16, .int .u32 69643, .int .u8 106, .int .i64 4, .string ⟨#[105, 114]⟩, .int .i64 8, .int .u32 285, .int .u8 105, .int .i64 3, .string ⟨#[105, 99]⟩, .int .i64 8, .int .u32 285, .int .u8 105, .int .i64 4, .string ⟨#[98, 98]⟩, .int .i64 8, .int .u32 285, .int .u8 98, .int .i64 4, .string ⟨#[107, 112]⟩, .int .i64 8, .int .u32 285, .int .u8 112, .int .i64 4]
theorem profile_table.any (w : World) :
  Calls Tryz.prog 114 #[] w fun e w' => e = .returned profile_table.v ∧ Below w.heap.size w w' := by
 go_enter Tryz.func114, Tryz.ntmps114
 go_wp2_with ((with_reducible refine gate_store rfl ?_); refine wpList_store_row rfl 146 _ _ rfl w.heap.size _ rfl rfl 146 _ (heap_alloc_new _ _) kr_ rfl kr_ ?_)
 exact bodyPost_ret (results_cell_row Tryz.results114 _ _ w.heap.size _ _ (0, 0) _ rfl (setRow_heap _ _ _ _ _ _ (heap_alloc_new _ _)) Tryz.underlying146 rfl kr_) rfl ⟨rfl, below_setRow ((Below.refl _ _).alloc (Nat.le_refl _) _) (Nat.le_refl _) _⟩
theorem profile_Of.at1 (w : World) :
  Calls Tryz.prog 73 #[.int .i64 1] w fun e w' => e = .returned (.tuple #[.agg #[.string ⟨#[106, 118]⟩, .int .i64 8, .int .u32 285, .int .u8 106, .int .i64 4], .bool true]) ∧ Below w.heap.size w w' := by
 have hi : ∀ w, (Instr.index 146 profile_table.v (.int .i64 0)).run Tryz.prog w = .ok (.agg #[.string ⟨#[106, 118]⟩, .int .i64 8, .int .u32 285, .int .u8 106, .int .i64 4]) w := fun _ => by kernel_rfl
 go_enter Tryz.func73, Tryz.ntmps73
 go_wp2_with fail
 refine (profile_table.any _).mono ?_
 rintro e w1 ⟨rfl, hb⟩
 have hh : w1.heap[w.heap.size]? = some (.cells #[.string ⟨#[]⟩, .int .i64 0, .int .u32 0, .int .u8 0, .int .i64 0] 103 (0, 0)) := (hb.block _ (by simp)).trans (heap_alloc_new _ _)
 go_wp2_with ((with_reducible refine gate_store rfl ?_); (refine wpList_store_row rfl 103 _ _ rfl w.heap.size _ rfl rfl 103 _ hh kr_ rfl kr_ ?_))
 refine bodyPost_ret (v := .tuple #[.agg #[.string ⟨#[106, 118]⟩, .int .i64 8, .int .u32 285, .int .u8 106, .int .i64 4], .bool true]) ?_ rfl ⟨rfl, below_setRow (((Below.refl _ _).alloc (Nat.le_refl _) _).trans (hb.mono (by simp))) (Nat.le_refl _) _⟩
 rw [results_cell_tmp Tryz.results73]
 simp only [Array.getD_eq_getD_getElem?, List.getElem?_toArray, List.getElem?_cons_succ, List.getElem?_cons_zero, Option.getD_some, asAddr, Sem.run_pure, Result.andThen_ok]
 rw [run_loadVar_row _ w.heap.size 103 103 _ (0, 0) _ (setRow_heap _ _ _ _ _ _ hh) Tryz.underlying103 rfl kr_]
 rfl
theorem profile_Of.at2 (w : World) :
  Calls Tryz.prog 73 #[.int .i64 2] w fun e w' => e = .returned (.tuple #[.agg #[.string ⟨#[106, 99]⟩, .int .i64 16, .int .u32 69643, .int .u8 106, .int .i64 4], .bool true]) ∧ Below w.heap.size w w' := by
 have hi : ∀ w, (Instr.index 146 profile_table.v (.int .i64 1)).run Tryz.prog w = .ok (.agg #[.string ⟨#[106, 99]⟩, .int .i64 16, .int .u32 69643, .int .u8 106, .int .i64 4]) w := fun _ => by kernel_rfl
 go_enter Tryz.func73, Tryz.ntmps73
 go_wp2_with fail
 refine (profile_table.any _).mono ?_
 rintro e w1 ⟨rfl, hb⟩
 have hh : w1.heap[w.heap.size]? = some (.cells #[.string ⟨#[]⟩, .int .i64 0, .int .u32 0, .int .u8 0, .int .i64 0] 103 (0, 0)) := (hb.block _ (by simp)).trans (heap_alloc_new _ _)
 go_wp2_with ((with_reducible refine gate_store rfl ?_); (refine wpList_store_row rfl 103 _ _ rfl w.heap.size _ rfl rfl 103 _ hh kr_ rfl kr_ ?_))
 refine bodyPost_ret (v := .tuple #[.agg #[.string ⟨#[106, 99]⟩, .int .i64 16, .int .u32 69643, .int .u8 106, .int .i64 4], .bool true]) ?_ rfl ⟨rfl, below_setRow (((Below.refl _ _).alloc (Nat.le_refl _) _).trans (hb.mono (by simp))) (Nat.le_refl _) _⟩
 rw [results_cell_tmp Tryz.results73]
 simp only [Array.getD_eq_getD_getElem?, List.getElem?_toArray, List.getElem?_cons_succ, List.getElem?_cons_zero, Option.getD_some, asAddr, Sem.run_pure, Result.andThen_ok]
 rw [run_loadVar_row _ w.heap.size 103 103 _ (0, 0) _ (setRow_heap _ _ _ _ _ _ hh) Tryz.underlying103 rfl kr_]
 rfl
theorem profile_Of.at3 (w : World) :
  Calls Tryz.prog 73 #[.int .i64 3] w fun e w' => e = .returned (.tuple #[.agg #[.string ⟨#[105, 114]⟩, .int .i64 8, .int .u32 285, .int .u8 105, .int .i64 3], .bool true]) ∧ Below w.heap.size w w' := by
 have hi : ∀ w, (Instr.index 146 profile_table.v (.int .i64 2)).run Tryz.prog w = .ok (.agg #[.string ⟨#[105, 114]⟩, .int .i64 8, .int .u32 285, .int .u8 105, .int .i64 3]) w := fun _ => by kernel_rfl
 go_enter Tryz.func73, Tryz.ntmps73
 go_wp2_with fail
 refine (profile_table.any _).mono ?_
 rintro e w1 ⟨rfl, hb⟩
 have hh : w1.heap[w.heap.size]? = some (.cells #[.string ⟨#[]⟩, .int .i64 0, .int .u32 0, .int .u8 0, .int .i64 0] 103 (0, 0)) := (hb.block _ (by simp)).trans (heap_alloc_new _ _)
 go_wp2_with ((with_reducible refine gate_store rfl ?_); (refine wpList_store_row rfl 103 _ _ rfl w.heap.size _ rfl rfl 103 _ hh kr_ rfl kr_ ?_))
 refine bodyPost_ret (v := .tuple #[.agg #[.string ⟨#[105, 114]⟩, .int .i64 8, .int .u32 285, .int .u8 105, .int .i64 3], .bool true]) ?_ rfl ⟨rfl, below_setRow (((Below.refl _ _).alloc (Nat.le_refl _) _).trans (hb.mono (by simp))) (Nat.le_refl _) _⟩
 rw [results_cell_tmp Tryz.results73]
 simp only [Array.getD_eq_getD_getElem?, List.getElem?_toArray, List.getElem?_cons_succ, List.getElem?_cons_zero, Option.getD_some, asAddr, Sem.run_pure, Result.andThen_ok]
 rw [run_loadVar_row _ w.heap.size 103 103 _ (0, 0) _ (setRow_heap _ _ _ _ _ _ hh) Tryz.underlying103 rfl kr_]
 rfl
theorem profile_Of.at4 (w : World) :
  Calls Tryz.prog 73 #[.int .i64 4] w fun e w' => e = .returned (.tuple #[.agg #[.string ⟨#[105, 99]⟩, .int .i64 8, .int .u32 285, .int .u8 105, .int .i64 4], .bool true]) ∧ Below w.heap.size w w' := by
 have hi : ∀ w, (Instr.index 146 profile_table.v (.int .i64 3)).run Tryz.prog w = .ok (.agg #[.string ⟨#[105, 99]⟩, .int .i64 8, .int .u32 285, .int .u8 105, .int .i64 4]) w := fun _ => by kernel_rfl
 go_enter Tryz.func73, Tryz.ntmps73
 go_wp2_with fail
 refine (profile_table.any _).mono ?_
 rintro e w1 ⟨rfl, hb⟩
 have hh : w1.heap[w.heap.size]? = some (.cells #[.string ⟨#[]⟩, .int .i64 0, .int .u32 0, .int .u8 0, .int .i64 0] 103 (0, 0)) := (hb.block _ (by simp)).trans (heap_alloc_new _ _)
 go_wp2_with ((with_reducible refine gate_store rfl ?_); (refine wpList_store_row rfl 103 _ _ rfl w.heap.size _ rfl rfl 103 _ hh kr_ rfl kr_ ?_))
 refine bodyPost_ret (v := .tuple #[.agg #[.string ⟨#[105, 99]⟩, .int .i64 8, .int .u32 285, .int .u8 105, .int .i64 4], .bool true]) ?_ rfl ⟨rfl, below_setRow (((Below.refl _ _).alloc (Nat.le_refl _) _).trans (hb.mono (by simp))) (Nat.le_refl _) _⟩
 rw [results_cell_tmp Tryz.results73]
 simp only [Array.getD_eq_getD_getElem?, List.getElem?_toArray, List.getElem?_cons_succ, List.getElem?_cons_zero, Option.getD_some, asAddr, Sem.run_pure, Result.andThen_ok]
 rw [run_loadVar_row _ w.heap.size 103 103 _ (0, 0) _ (setRow_heap _ _ _ _ _ _ hh) Tryz.underlying103 rfl kr_]
 rfl
theorem profile_Of.at5 (w : World) :
  Calls Tryz.prog 73 #[.int .i64 5] w fun e w' => e = .returned (.tuple #[.agg #[.string ⟨#[98, 98]⟩, .int .i64 8, .int .u32 285, .int .u8 98, .int .i64 4], .bool true]) ∧ Below w.heap.size w w' := by
 have hi : ∀ w, (Instr.index 146 profile_table.v (.int .i64 4)).run Tryz.prog w = .ok (.agg #[.string ⟨#[98, 98]⟩, .int .i64 8, .int .u32 285, .int .u8 98, .int .i64 4]) w := fun _ => by kernel_rfl
 go_enter Tryz.func73, Tryz.ntmps73
 go_wp2_with fail
 refine (profile_table.any _).mono ?_
 rintro e w1 ⟨rfl, hb⟩
 have hh : w1.heap[w.heap.size]? = some (.cells #[.string ⟨#[]⟩, .int .i64 0, .int .u32 0, .int .u8 0, .int .i64 0] 103 (0, 0)) := (hb.block _ (by simp)).trans (heap_alloc_new _ _)
 go_wp2_with ((with_reducible refine gate_store rfl ?_); (refine wpList_store_row rfl 103 _ _ rfl w.heap.size _ rfl rfl 103 _ hh kr_ rfl kr_ ?_))
 refine bodyPost_ret (v := .tuple #[.agg #[.string ⟨#[98, 98]⟩, .int .i64 8, .int .u32 285, .int .u8 98, .int .i64 4], .bool true]) ?_ rfl ⟨rfl, below_setRow (((Below.refl _ _).alloc (Nat.le_refl _) _).trans (hb.mono (by simp))) (Nat.le_refl _) _⟩
 rw [results_cell_tmp Tryz.results73]
 simp only [Array.getD_eq_getD_getElem?, List.getElem?_toArray, List.getElem?_cons_succ, List.getElem?_cons_zero, Option.getD_some, asAddr, Sem.run_pure, Result.andThen_ok]
 rw [run_loadVar_row _ w.heap.size 103 103 _ (0, 0) _ (setRow_heap _ _ _ _ _ _ hh) Tryz.underlying103 rfl kr_]
 rfl
theorem profile_Of.at6 (w : World) :
  Calls Tryz.prog 73 #[.int .i64 6] w fun e w' => e = .returned (.tuple #[.agg #[.string ⟨#[107, 112]⟩, .int .i64 8, .int .u32 285, .int .u8 112, .int .i64 4], .bool true]) ∧ Below w.heap.size w w' := by
 have hi : ∀ w, (Instr.index 146 profile_table.v (.int .i64 5)).run Tryz.prog w = .ok (.agg #[.string ⟨#[107, 112]⟩, .int .i64 8, .int .u32 285, .int .u8 112, .int .i64 4]) w := fun _ => by kernel_rfl
 go_enter Tryz.func73, Tryz.ntmps73
 go_wp2_with fail
 refine (profile_table.any _).mono ?_
 rintro e w1 ⟨rfl, hb⟩
 have hh : w1.heap[w.heap.size]? = some (.cells #[.string ⟨#[]⟩, .int .i64 0, .int .u32 0, .int .u8 0, .int .i64 0] 103 (0, 0)) := (hb.block _ (by simp)).trans (heap_alloc_new _ _)
 go_wp2_with ((with_reducible refine gate_store rfl ?_); (refine wpList_store_row rfl 103 _ _ rfl w.heap.size _ rfl rfl 103 _ hh kr_ rfl kr_ ?_))
 refine bodyPost_ret (v := .tuple #[.agg #[.string ⟨#[107, 112]⟩, .int .i64 8, .int .u32 285, .int .u8 112, .int .i64 4], .bool true]) ?_ rfl ⟨rfl, below_setRow (((Below.refl _ _).alloc (Nat.le_refl _) _).trans (hb.mono (by simp))) (Nat.le_refl _) _⟩
 rw [results_cell_tmp Tryz.results73]
 simp only [Array.getD_eq_getD_getElem?, List.getElem?_toArray, List.getElem?_cons_succ, List.getElem?_cons_zero, Option.getD_some, asAddr, Sem.run_pure, Result.andThen_ok]
 rw [run_loadVar_row _ w.heap.size 103 103 _ (0, 0) _ (setRow_heap _ _ _ _ _ _ hh) Tryz.underlying103 rfl kr_]
 rfl
theorem profile_Of.calls (a0 : Int) (r1 : ByteArray) (r2 : Int) (r3 : Int) (r4 : Int) (r5 : Int) (r6 : Bool) (w : World) (h : profile_Of.f a0 = some (r1, r2, r3, r4, r5, r6)) :
  Calls Tryz.prog 73 #[.int .i64 a0] w fun e w' => e = .returned (.tuple #[.agg #[.string r1, .int .i64 r2, .int .u32 r3, .int .u8 r4, .int .i64 r5], .bool r6]) ∧ Below w.heap.size w w' := by
 unfold profile_Of.f at h
 by_cases h1 : a0 = 1
 ·subst h1; simp at h; obtain ⟨rfl, rfl, rfl, rfl, rfl, rfl⟩ := h; exact profile_Of.at1 w
 rw [if_neg h1] at h
 by_cases h2 : a0 = 2
 ·subst h2; simp at h; obtain ⟨rfl, rfl, rfl, rfl, rfl, rfl⟩ := h; exact profile_Of.at2 w
 rw [if_neg h2] at h
 by_cases h3 : a0 = 3
 ·subst h3; simp at h; obtain ⟨rfl, rfl, rfl, rfl, rfl, rfl⟩ := h; exact profile_Of.at3 w
 rw [if_neg h3] at h
 by_cases h4 : a0 = 4
 ·subst h4; simp at h; obtain ⟨rfl, rfl, rfl, rfl, rfl, rfl⟩ := h; exact profile_Of.at4 w
 rw [if_neg h4] at h
 by_cases h5 : a0 = 5
 ·subst h5; simp at h; obtain ⟨rfl, rfl, rfl, rfl, rfl, rfl⟩ := h; exact profile_Of.at5 w
 rw [if_neg h5] at h
 by_cases h6 : a0 = 6
 ·subst h6; simp at h; obtain ⟨rfl, rfl, rfl, rfl, rfl, rfl⟩ := h; exact profile_Of.at6 w
 rw [if_neg h6] at h
 simp at h; obtain ⟨rfl, rfl, rfl, rfl, rfl, rfl⟩ := h
 by_cases h0 : a0 < 1
 ·exact profile_Of.low a0 w h0
 ·exact profile_Of.high a0 w (by omega)
end Go.Proofs.YtelcllhibpnneaaGreat.XCo
end
