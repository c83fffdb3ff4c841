-- Joined by this work's own program (wip/tools/bundle.py) out of its texts: what this claim uses of them. Not trusted: Lean checks it.
import Derived.Test.YtpdakdcmahlghaaGreatProg
import Derived.Below
import Derived.Deep.Draws
import Derived.Deep.AppendLies
import Derived.Maps.AppendAt
import Derived.OwnWalk
import Derived.Laws.BytesArg
import Derived.Laws.MakeOwn
import Derived.Laws.OwnMore
import Derived.Deep.OwnRows
import Derived.Tactics
import Derived.Lib.ConvBytes
import Derived.Laws.Slices
import Derived.WalkKit
import Derived.KernelRfl
import Derived.RowKit3
import Derived.Deep.LoopGhost
import Derived.Deep.QuietTactic
import Derived.BigQuiet
import Derived.WideLaws
import Derived.Deep.DeepCutAuto
import Derived.Deep.CutBlock
import Derived.Deep.RegionHeld3
import Derived.Laws.Rows
import Derived.Lib.AppendStr
import Derived.ArgAppend
import Derived.Laws.IdiomCopy
import Derived.OrdersHeld
import Derived.Laws.BitsLemmas
import Derived.RowKit
import Derived.Laws.CopyOwn
import Derived.Test.YtpdakdcmahlghaaGreatBTrialNone1
import Derived.Test.YtpdakdcmahlghaaGreatBTrialNone2
section
namespace Go.Proofs.YtpdakdcmahlghaaGreat.XCo
open Go.RowKit Go.Proofs.YtpdakdcmahlghaaGreatW.PrintWords Go.Proofs.YtpdakdcmahlghaaGreatW.PrintLast Go.Proofs.YtpdakdcmahlghaaGreatW.PrintMore
attribute [local go_sem] aDz aEz aLz aMz auz avz aFz aGz
set_option linter.unusedVariables false
set_option linter.unusedSimpArgs false
def errW : Option Int → Value
 | none => .nilIface
 | some c => .iface 0 (.int .i64 c)
theorem brz : errW none = .nilIface := rfl
theorem bsz (c : Int) : errW (some c) = .iface 0 (.int .i64 c) := rfl
theorem info3 : (Tryz.prog.info? 3).map (fun i => (i.zero, i.size, i.bytes)) = some (some (.int .i64 0), 1, 8) := by kernel_rfl
theorem info5 : (Tryz.prog.info? 5).map (fun i => (i.zero, i.size, i.bytes)) = some (some (.int .u8 0), 1, 1) := by kernel_rfl
theorem info34 : (Tryz.prog.info? 34).map (fun i => (i.zero, i.size, i.bytes)) = some (some (.slice none 0 0), 1, 24) := by kernel_rfl
theorem info57 : (Tryz.prog.info? 57).map (fun i => (i.zero, i.size, i.bytes)) = some (some (.slice none 0 0), 1, 24) := by kernel_rfl
def rd_L1 (xs : List (List Int)) (i : Int) : (List Int) := xs.getD i.toNat ([] : List Int)
theorem at_L1 {w : World} {A : Option Addr} {n : Nat} {xs : List (List Int)} (h : Kd.C (Kd.slice 5 (Kd.int .u8)) w A n xs) (i : Int) (h0 : 0 ≤ i) (h1 : i < n) : ∃ ad A0 c0, A = some ad ∧ w.cell? (ad.add i.toNat) = some (.slice A0 (rd_L1 xs i).length c0) ∧ (rd_L1 xs i).length ≤ c0 ∧ (Kd.int .u8).C w A0 (rd_L1 xs i).length (rd_L1 xs i) := by
 obtain ⟨ad, c, e, _, hK, hc0⟩ := Kd.C_get h ([] : List Int) i h0 h1
 have hc : ∀ j u, c[j]? = some u → w.cell? (ad.add (i.toNat * 1 + j)) = some u := hc0
 obtain ⟨A0, c0, rfl, l0, g0⟩ := hK
 exact ⟨ad, A0, c0, e, by have hq := hc 0 _ rfl; rwa [Nat.mul_one, Nat.add_zero] at hq, l0, g0⟩
end Go.Proofs.YtpdakdcmahlghaaGreat.XCo
end
section
namespace Go.Proofs.YtpdakdcmahlghaaGreat.XCo
open Go.RowKit Go.Proofs.YtpdakdcmahlghaaGreatW.PrintWords Go.Proofs.YtpdakdcmahlghaaGreatW.PrintLast Go.Proofs.YtpdakdcmahlghaaGreatW.PrintMore
attribute [local go_sem] aDz aEz aLz aMz auz avz aFz aGz
set_option linter.unusedVariables false
set_option linter.unusedSimpArgs false
def bL : Nat → Nat → List Bool
 | 0, _ => []
 | n + 1, m => (m % 2 == 1) :: bL n (m / 2)
def bA (n m : Nat) : Array Bool := (bL n m).toArray
section
variable {P : Program} {md : Region.Mode} {ops : Array Oper} {Q : Exit → Act → World → Prop} {S : World → Prop} {ds : List Nat} {oi : Oper} {v : Value} {fuel n m0 : Nat} {a a' : Act} {w : World} {T : Bool × List (List Nat × List Nat)} {B : List Nat}
theorem pu_ (i d m : Nat)
  (h : wpAnyLast P md ops Q S ds fuel (bA n m) a' w)
  (hi : ops[i]? = some oi := by exact rfl) (hN : oi.dst = some d := by exact rfl)
  (hc : anyB md ops (bA n m0) (bA n m) i = true := by kernel_rfl)
  (hQ : ∀ c v a w, Q (.panic c) (Act.put a (some d) v) w → Q (.panic c) a w := by exact fun _ _ _ _ h => h)
  (hy : Yields P ops oi v a := by (refine Or.inl ⟨by rfl, ?_⟩; intro w'; go_simp; with_reducible rfl))
  (ha : a.put (some d) v = a' := by (simp only [Act.put, List.setIfInBounds_toArray, List.set_cons_zero, List.set_cons_succ, i64_w, i32_w]; rfl)) :
  wpAnyLast P md ops Q S ds (fuel + 1) (bA n m0) a w := pure_ _ hi hN hc (fun c a w => by rw [hN]; exact hQ c _ a w) hy ha h
theorem tk_ (i d m : Nat) (hS : S w)
  (h : wpAnyLast P md ops Q S ds fuel (bA n m) a' w)
  (hi : ops[i]? = some oi := by exact rfl) (hN : oi.dst = some d := by exact rfl)
  (hc : takeB md ops ds (bA n m0) (bA n m) i = true := by kernel_rfl)
  (hQ : ∀ c v a w, Q (.panic c) (Act.put a (some d) v) w → Q (.panic c) a w := by exact fun _ _ _ _ h => h)
  (hy : YieldsIf P ops S oi v a := by (refine Or.inl ⟨by rfl, ?_⟩; intro w' hs; (try dsimp only at hs); (repeat (rcases hs with ⟨s0, hs⟩)); go_simp; with_reducible rfl))
  (ha : a.put (some d) v = a' := by (simp only [Act.put, List.setIfInBounds_toArray, List.set_cons_zero, List.set_cons_succ, i64_w, i32_w]; rfl)) :
  wpAnyLast P md ops Q S ds (fuel + 1) (bA n m0) a w := take_ _ hi hN hc (fun c a w => by rw [hN]; exact hQ c _ a w) hy hS ha h
end
theorem kr_ {p : Prop} (h : p := by kernel_rfl) : p := h
theorem bl_ {p : Prop} (h : p := by repeat (first | (with_reducible first | exact HB.out | apply abz | apply amz | apply below_drew1 | refine cvz ?_ (Aside0.out (by assumption))) | exact HB.out)) : p := h
theorem bk_ {p : Prop} (h : p := by (with_reducible repeat (first | refine axz ?_ _ | refine aBz ?_ | refine aiz ?_ _)); exact Aside0.out (by assumption)) : p := h
theorem am_ {p : Prop} (h : p := by simp only [List.map_toArray, List.map_cons, List.map_nil]; rfl) : p := h
theorem as_ {p : Prop} (h : p := by first | (with_reducible assumption) | assumption) : p := h
theorem er_ {p : Prop} (h : p := by first | rfl | (simp [brz, bsz] <;> rfl) | (simp [*, brz, bsz] <;> rfl)) : p := h
theorem sd_ {p : Prop} (h : p := by first | rfl | (simp; done) | (simp [*]; done)) : p := h
theorem dn_ {p : Prop} (h : p := by repeat (first | exact Drawn0.refl _ | apply Drawn0.step)) : p := h
theorem nl_ {p : Prop} (h : p := by first | exact Kd.S_nil _ _ _ _ _ | exact Kd.N_nil _ _ _ _ _ | exact Kd.V_nil _ _ _ _ _ | exact Kd.Q_nil _ _ _ _ _ | exact Kd.R_nil _ _ _ _ _) : p := h
theorem bc2_ {w : World} {g : Nat} {t : TypeId} {x0 x1 : Value} (h : w.heap[g]? = some (.cells #[x0, x1] t (0, 0))) : w.cell? ⟨g, 0, none⟩ = some x0 ∧ w.frozen? ⟨g, 0, none⟩ = false ∧ w.cell? ⟨g, 1, none⟩ = some x1 ∧ w.frozen? ⟨g, 1, none⟩ = false := ⟨(aaz h 0).trans rfl, ayz h 0, (aaz h 1).trans rfl, ayz h 1⟩
theorem bc3_ {w : World} {g : Nat} {t : TypeId} {x0 x1 x2 : Value} (h : w.heap[g]? = some (.cells #[x0, x1, x2] t (0, 0))) : w.cell? ⟨g, 0, none⟩ = some x0 ∧ w.frozen? ⟨g, 0, none⟩ = false ∧ w.cell? ⟨g, 1, none⟩ = some x1 ∧ w.frozen? ⟨g, 1, none⟩ = false ∧ w.cell? ⟨g, 2, none⟩ = some x2 ∧ w.frozen? ⟨g, 2, none⟩ = false := ⟨(aaz h 0).trans rfl, ayz h 0, (aaz h 1).trans rfl, ayz h 1, (aaz h 2).trans rfl, ayz h 2⟩
theorem bc5_ {w : World} {g : Nat} {t : TypeId} {x0 x1 x2 x3 x4 : Value} (h : w.heap[g]? = some (.cells #[x0, x1, x2, x3, x4] t (0, 0))) : w.cell? ⟨g, 0, none⟩ = some x0 ∧ w.frozen? ⟨g, 0, none⟩ = false ∧ w.cell? ⟨g, 1, none⟩ = some x1 ∧ w.frozen? ⟨g, 1, none⟩ = false ∧ w.cell? ⟨g, 2, none⟩ = some x2 ∧ w.frozen? ⟨g, 2, none⟩ = false ∧ w.cell? ⟨g, 3, none⟩ = some x3 ∧ w.frozen? ⟨g, 3, none⟩ = false ∧ w.cell? ⟨g, 4, none⟩ = some x4 ∧ w.frozen? ⟨g, 4, none⟩ = false := ⟨(aaz h 0).trans rfl, ayz h 0, (aaz h 1).trans rfl, ayz h 1, (aaz h 2).trans rfl, ayz h 2, (aaz h 3).trans rfl, ayz h 3, (aaz h 4).trans rfl, ayz h 4⟩
theorem bb_ {W w w1 : World} {g : Nat} {o : Obj} (h : Aside0 (W.heap[g]? = some o)) (hb : Below w.heap.size w w1)
  (h2 : W.heap[g]? = some o → w.heap[g]? = some o := by intro hx; (with_reducible repeat (first | refine axz ?_ _ | refine aBz ?_ | refine aiz ?_ _)); exact hx) : Aside0 (w1.heap[g]? = some o) := ⟨aez (h2 h.out) hb⟩
theorem hs_ {a b w w1 : World} (_HB : Aside0 (Below a.heap.size a b)) (hb : Below w.heap.size w w1)
  (h : Below a.heap.size a w := by repeat (first | (with_reducible first | exact HB.out | apply abz | apply amz | apply below_drew1 | refine cvz ?_ (Aside0.out (by assumption))) | exact HB.out)) : Aside0 (Below a.heap.size a w1) := ⟨b8z h hb⟩
theorem ag_ {n : Nat} {a b : World} (_HB : Aside0 (Below n a b)) (g : Nat) (h : n ≤ g := by rw [hg]; exact (aVz bl_)) : Aside0 (n ≤ g) := ⟨h⟩
theorem n1_ {W : World} {g : Nat} {o : Obj} (_h : Aside0 (W.heap[g]? = some o)) (g' : Nat) (h : g ≠ g' := by rw [hg]; exact Nat.ne_of_lt (apz bk_)) : Aside0 (g ≠ g') := ⟨h⟩
theorem n2_ {W : World} {g : Nat} {o : Obj} (_h : Aside0 (W.heap[g]? = some o)) (g' : Nat) (h : g' ≠ g := by rw [hg]; exact Nat.ne_of_gt (apz bk_)) : Aside0 (g' ≠ g) := ⟨h⟩
theorem ob_ {α β : Type} {o : Option α} {f : α → Option β} {b : β} (h : o.bind f = some b) : ∃ a, Aside0 (o = some a) ∧ f a = some b := by
 obtain ⟨a, h1, h2⟩ := Option.bind_eq_some_iff.1 h
 exact ⟨a, ⟨h1⟩, h2⟩
theorem xd_ {p q : Prop} (x : q) (h : q → p := by intro hx; (with_reducible repeat (first | apply Kd.N_alloc | apply Kd.N_drewN | apply Kd.N_drew | apply Kd.V_alloc | apply Kd.V_drewN | apply Kd.V_drew | apply Kd.R_alloc | apply Kd.b3z | apply Kd.csz | apply Kd.cNz | apply Kd.S_drewN | apply Kd.S_drew | refine Kd.C_alloc ?_ _ | refine Kd.b4z ?_ _ | refine Kd.C_drew ?_)); exact hx) : p := h x
section
variable {P : Program} {ops_ : Array Oper} {Q : Exit → Act → World → Prop} {rest : List Oper} {o : Oper} {a : Act} {W : World}
theorem bx_ (N : Tmp) (cs : Array Value) (t : TypeId)
  (h : ∀ g, g = W.heap.size → ∀ w1, w1.heap[g]? = some (.cells cs t (0, 0)) → Below W.heap.size W w1 → wpList P ops_ Q rest (a.put o.dst (.pointer (some ⟨g, 0, none⟩))) w1)
  (hd : o.dst = some N := by rfl) (hgd : o.guard = none := by rfl)
  (hrun : (execOp a.eval o).run P W = .ok (.value (.pointer (some ⟨W.heap.size, 0, none⟩))) (W.alloc (.cells cs t (0, 0))) := by first | (go_simp; done) | (go_simp; rfl)) : wpList P ops_ Q (o :: rest) a W :=
 byz hgd hd hrun h
theorem gl_ (N : Option Tmp) {f : FuncId} {fn : Func} (hf : P.funcs[f]? = some fn) (args : Array Value) {xs : Array Operand} {ts : Array TypeId}
  (h : Calls P f args W fun e w' => ∃ v, e = .returned v ∧ wpList P ops_ Q rest (a.put N v) w')
  (hd : o.dst = N := by rfl) (hg : o.guard = none := by rfl) (hname : (fn.name == "runtime.NumGoroutine") = false := by kernel_rfl) (hb : fn.body.isSome = true := by rfl)
  (hop : o.op = .call { callee := .value (.func f), args := xs, argTypes := ts } := by rfl)
  (hargs : xs.map a.eval = args := by (try simp only [List.map_toArray, List.map_cons, List.map_nil]); first | done | rfl | (simp only [List.length_drop, List.length_take]; rfl)) : wpList P ops_ Q (o :: rest) a W :=
 goesL_ N hd hg hf hname hb args hop hargs h
end
section
variable {α : Type} {d : Kd α} {e base : Nat} {ok ok' : Nat → Prop} {w w1 : World} {v : Value} {xs : List α}
theorem nm_ (h : Aside0 (d.N e w base ok v xs)) (hok : ∀ k, ok k → ok' k := by intro _ hk; first | exact hk | exact trivial | ((try simp only [and_assoc] at hk); (repeat (have h_ := hk.1; replace hk := hk.2)); ((repeat' apply And.intro) <;> first | assumption | exact trivial | (simp [Value.ownBlock]; done)))) (hw : d.N e w base ok' v xs → d.N e w1 base ok' v xs := by intro hx; (with_reducible repeat (first | apply Kd.N_alloc | apply Kd.N_drewN | apply Kd.N_drew)); exact hx) : d.N e w1 base ok' v xs := hw (Kd.N_mono h.out hok)
theorem sm_ (h : Aside0 (d.S e w base ok v xs)) (hok : ∀ k, ok k → ok' k := by intro _ hk; first | exact hk | exact trivial | ((try simp only [and_assoc] at hk); (repeat (have h_ := hk.1; replace hk := hk.2)); ((repeat' apply And.intro) <;> first | assumption | exact trivial | (simp [Value.ownBlock]; done)))) (hw : d.S e w base ok' v xs → d.S e w1 base ok' v xs := by intro hx; (with_reducible repeat (first | apply Kd.cNz | apply Kd.S_drewN | apply Kd.S_drew)); exact hx) : d.S e w1 base ok' v xs := hw (Kd.bxz h.out hok)
end
end Go.Proofs.YtpdakdcmahlghaaGreat.XCo
end
section
namespace Go.Proofs.YtpdakdcmahlghaaGreat.XCo
open Go.RowKit Go.Proofs.YtpdakdcmahlghaaGreatW.PrintWords Go.Proofs.YtpdakdcmahlghaaGreatW.PrintLast Go.Proofs.YtpdakdcmahlghaaGreatW.PrintMore
attribute [local go_sem] aDz aEz aLz aMz auz avz aFz aGz
set_option linter.unusedVariables false
set_option linter.unusedSimpArgs false
def alz.f (a0 : Int) : Option (ByteArray × Int × Int × Int × Int × Bool) :=
 if a0 = 1 then some (⟨#[106, 118]⟩, 8, 285, 106, 4, true) else if a0 = 2 then some (⟨#[106, 99]⟩, 16, 69643, 106, 4, true)
 else if a0 = 3 then some (⟨#[105, 114]⟩, 8, 285, 105, 3, true) else if a0 = 4 then some (⟨#[105, 99]⟩, 8, 285, 105, 4, true)
 else if a0 = 5 then some (⟨#[98, 98]⟩, 8, 285, 98, 4, true) else if a0 = 6 then some (⟨#[107, 112]⟩, 8, 285, 112, 4, true)
 else some (⟨#[]⟩, 0, 0, 0, 0, false)
theorem alz.low (a0 : Int) (w : World) (h : a0 < 1) :
  Calls Tryz.prog 75 #[.int .i64 a0] w fun e w' => e = .returned (.tuple #[.agg #[.string ⟨#[]⟩, .int .i64 0, .int .u32 0, .int .u8 0, .int .i64 0], .bool false]) ∧ Below w.heap.size w w' := by
 go_enter Tryz.func75, Tryz.ntmps75
 go_wp2
 exact bodyPost_ret (v := .tuple #[.agg #[.string ⟨#[]⟩, .int .i64 0, .int .u32 0, .int .u8 0, .int .i64 0], .bool false]) (by simp [results, Tryz.results75, go_sem]) rfl ⟨rfl, (Below.refl _ _).alloc (Nat.le_refl _) _⟩
theorem alz.high (a0 : Int) (w : World) (h : 6 < a0) :
  Calls Tryz.prog 75 #[.int .i64 a0] w fun e w' => e = .returned (.tuple #[.agg #[.string ⟨#[]⟩, .int .i64 0, .int .u32 0, .int .u8 0, .int .i64 0], .bool false]) ∧ Below w.heap.size w w' := by
 have h1 : ¬ a0 < 1 := by omega
 go_enter Tryz.func75, Tryz.ntmps75
 go_wp2
 exact bodyPost_ret (v := .tuple #[.agg #[.string ⟨#[]⟩, .int .i64 0, .int .u32 0, .int .u8 0, .int .i64 0], .bool false]) (by simp [results, Tryz.results75, go_sem]) rfl ⟨rfl, (Below.refl _ _).alloc (Nat.le_refl _) _⟩
def aXz.v : Value := .agg #[.string ⟨#[106, 118]⟩, .int .i64 8, .int .u32 285, .int .u8 106, .int .i64 4, .string ⟨#[106, 99]⟩, .int .i64 16, .int .u32 69643, .int .u8 106, .int .i64 4, .string ⟨#[105, 114]⟩, .int .i64 8, .int .u32 285, .int .u8 105, .int .i64 3, .string ⟨#[105, 99]⟩, .int .i64 8, .int .u32 285, .int .u8 105, .int .i64 4, .string ⟨#[98, 98]⟩, .int .i64 8, .int .u32 285, .int .u8 98, .int .i64 4, .string ⟨#[107, 112]⟩, .int .i64 8, .int .u32 285, .int .u8 112, .int .i64 4]
theorem aXz.any (w : World) :
  Calls Tryz.prog 111 #[] w fun e w' => e = .returned aXz.v ∧ Below w.heap.size w w' := by
 go_enter Tryz.func111, Tryz.ntmps111
 go_wp2_with ((with_reducible refine bnz rfl ?_); refine wpList_store_row rfl 143 _ _ rfl w.heap.size _ rfl rfl 143 _ (heap_alloc_new _ _) kr_ rfl kr_ ?_)
 exact bodyPost_ret (results_cell_row Tryz.results111 _ _ w.heap.size _ _ (0, 0) _ rfl (setRow_heap _ _ _ _ _ _ (heap_alloc_new _ _)) Tryz.underlying143 rfl kr_) rfl ⟨rfl, below_setRow ((Below.refl _ _).alloc (Nat.le_refl _) _) (Nat.le_refl _) _⟩
theorem alz.at1 (w : World) :
  Calls Tryz.prog 75 #[.int .i64 1] w fun e w' => e = .returned (.tuple #[.agg #[.string ⟨#[106, 118]⟩, .int .i64 8, .int .u32 285, .int .u8 106, .int .i64 4], .bool true]) ∧ Below w.heap.size w w' := by
 have hi : ∀ w, (Instr.index 143 aXz.v (.int .i64 0)).run Tryz.prog w = .ok (.agg #[.string ⟨#[106, 118]⟩, .int .i64 8, .int .u32 285, .int .u8 106, .int .i64 4]) w := fun _ => by kernel_rfl
 go_enter Tryz.func75, Tryz.ntmps75
 go_wp2_with fail
 refine (aXz.any _).mono ?_
 rintro e w1 ⟨rfl, hb⟩
 have hh : w1.heap[w.heap.size]? = some (.cells #[.string ⟨#[]⟩, .int .i64 0, .int .u32 0, .int .u8 0, .int .i64 0] 109 (0, 0)) := (hb.block _ (by simp)).trans (heap_alloc_new _ _)
 go_wp2_with ((with_reducible refine bnz rfl ?_); (refine wpList_store_row rfl 109 _ _ rfl w.heap.size _ rfl rfl 109 _ hh kr_ rfl kr_ ?_))
 refine bodyPost_ret (v := .tuple #[.agg #[.string ⟨#[106, 118]⟩, .int .i64 8, .int .u32 285, .int .u8 106, .int .i64 4], .bool true]) ?_ rfl ⟨rfl, below_setRow (((Below.refl _ _).alloc (Nat.le_refl _) _).trans (hb.mono (by simp))) (Nat.le_refl _) _⟩
 rw [results_cell_tmp Tryz.results75]
 simp only [Array.getD_eq_getD_getElem?, List.getElem?_toArray, List.getElem?_cons_succ, List.getElem?_cons_zero, Option.getD_some, asAddr, Sem.run_pure, Result.andThen_ok]
 rw [run_loadVar_row _ w.heap.size 109 109 _ (0, 0) _ (setRow_heap _ _ _ _ _ _ hh) Tryz.underlying109 rfl kr_]
 rfl
theorem alz.at2 (w : World) :
  Calls Tryz.prog 75 #[.int .i64 2] w fun e w' => e = .returned (.tuple #[.agg #[.string ⟨#[106, 99]⟩, .int .i64 16, .int .u32 69643, .int .u8 106, .int .i64 4], .bool true]) ∧ Below w.heap.size w w' := by
 have hi : ∀ w, (Instr.index 143 aXz.v (.int .i64 1)).run Tryz.prog w = .ok (.agg #[.string ⟨#[106, 99]⟩, .int .i64 16, .int .u32 69643, .int .u8 106, .int .i64 4]) w := fun _ => by kernel_rfl
 go_enter Tryz.func75, Tryz.ntmps75
 go_wp2_with fail
 refine (aXz.any _).mono ?_
 rintro e w1 ⟨rfl, hb⟩
 have hh : w1.heap[w.heap.size]? = some (.cells #[.string ⟨#[]⟩, .int .i64 0, .int .u32 0, .int .u8 0, .int .i64 0] 109 (0, 0)) := (hb.block _ (by simp)).trans (heap_alloc_new _ _)
 go_wp2_with ((with_reducible refine bnz rfl ?_); (refine wpList_store_row rfl 109 _ _ rfl w.heap.size _ rfl rfl 109 _ hh kr_ rfl kr_ ?_))
 refine bodyPost_ret (v := .tuple #[.agg #[.string ⟨#[106, 99]⟩, .int .i64 16, .int .u32 69643, .int .u8 106, .int .i64 4], .bool true]) ?_ rfl ⟨rfl, below_setRow (((Below.refl _ _).alloc (Nat.le_refl _) _).trans (hb.mono (by simp))) (Nat.le_refl _) _⟩
 rw [results_cell_tmp Tryz.results75]
 simp only [Array.getD_eq_getD_getElem?, List.getElem?_toArray, List.getElem?_cons_succ, List.getElem?_cons_zero, Option.getD_some, asAddr, Sem.run_pure, Result.andThen_ok]
 rw [run_loadVar_row _ w.heap.size 109 109 _ (0, 0) _ (setRow_heap _ _ _ _ _ _ hh) Tryz.underlying109 rfl kr_]
 rfl
theorem alz.at3 (w : World) :
  Calls Tryz.prog 75 #[.int .i64 3] w fun e w' => e = .returned (.tuple #[.agg #[.string ⟨#[105, 114]⟩, .int .i64 8, .int .u32 285, .int .u8 105, .int .i64 3], .bool true]) ∧ Below w.heap.size w w' := by
 have hi : ∀ w, (Instr.index 143 aXz.v (.int .i64 2)).run Tryz.prog w = .ok (.agg #[.string ⟨#[105, 114]⟩, .int .i64 8, .int .u32 285, .int .u8 105, .int .i64 3]) w := fun _ => by kernel_rfl
 go_enter Tryz.func75, Tryz.ntmps75
 go_wp2_with fail
 refine (aXz.any _).mono ?_
 rintro e w1 ⟨rfl, hb⟩
 have hh : w1.heap[w.heap.size]? = some (.cells #[.string ⟨#[]⟩, .int .i64 0, .int .u32 0, .int .u8 0, .int .i64 0] 109 (0, 0)) := (hb.block _ (by simp)).trans (heap_alloc_new _ _)
 go_wp2_with ((with_reducible refine bnz rfl ?_); (refine wpList_store_row rfl 109 _ _ rfl w.heap.size _ rfl rfl 109 _ hh kr_ rfl kr_ ?_))
 refine bodyPost_ret (v := .tuple #[.agg #[.string ⟨#[105, 114]⟩, .int .i64 8, .int .u32 285, .int .u8 105, .int .i64 3], .bool true]) ?_ rfl ⟨rfl, below_setRow (((Below.refl _ _).alloc (Nat.le_refl _) _).trans (hb.mono (by simp))) (Nat.le_refl _) _⟩
 rw [results_cell_tmp Tryz.results75]
 simp only [Array.getD_eq_getD_getElem?, List.getElem?_toArray, List.getElem?_cons_succ, List.getElem?_cons_zero, Option.getD_some, asAddr, Sem.run_pure, Result.andThen_ok]
 rw [run_loadVar_row _ w.heap.size 109 109 _ (0, 0) _ (setRow_heap _ _ _ _ _ _ hh) Tryz.underlying109 rfl kr_]
 rfl
theorem alz.at4 (w : World) :
  Calls Tryz.prog 75 #[.int .i64 4] w fun e w' => e = .returned (.tuple #[.agg #[.string ⟨#[105, 99]⟩, .int .i64 8, .int .u32 285, .int .u8 105, .int .i64 4], .bool true]) ∧ Below w.heap.size w w' := by
 have hi : ∀ w, (Instr.index 143 aXz.v (.int .i64 3)).run Tryz.prog w = .ok (.agg #[.string ⟨#[105, 99]⟩, .int .i64 8, .int .u32 285, .int .u8 105, .int .i64 4]) w := fun _ => by kernel_rfl
 go_enter Tryz.func75, Tryz.ntmps75
 go_wp2_with fail
 refine (aXz.any _).mono ?_
 rintro e w1 ⟨rfl, hb⟩
 have hh : w1.heap[w.heap.size]? = some (.cells #[.string ⟨#[]⟩, .int .i64 0, .int .u32 0, .int .u8 0, .int .i64 0] 109 (0, 0)) := (hb.block _ (by simp)).trans (heap_alloc_new _ _)
 go_wp2_with ((with_reducible refine bnz rfl ?_); (refine wpList_store_row rfl 109 _ _ rfl w.heap.size _ rfl rfl 109 _ hh kr_ rfl kr_ ?_))
 refine bodyPost_ret (v := .tuple #[.agg #[.string ⟨#[105, 99]⟩, .int .i64 8, .int .u32 285, .int .u8 105, .int .i64 4], .bool true]) ?_ rfl ⟨rfl, below_setRow (((Below.refl _ _).alloc (Nat.le_refl _) _).trans (hb.mono (by simp))) (Nat.le_refl _) _⟩
 rw [results_cell_tmp Tryz.results75]
 simp only [Array.getD_eq_getD_getElem?, List.getElem?_toArray, List.getElem?_cons_succ, List.getElem?_cons_zero, Option.getD_some, asAddr, Sem.run_pure, Result.andThen_ok]
 rw [run_loadVar_row _ w.heap.size 109 109 _ (0, 0) _ (setRow_heap _ _ _ _ _ _ hh) Tryz.underlying109 rfl kr_]
 rfl
theorem alz.at5 (w : World) :
  Calls Tryz.prog 75 #[.int .i64 5] w fun e w' => e = .returned (.tuple #[.agg #[.string ⟨#[98, 98]⟩, .int .i64 8, .int .u32 285, .int .u8 98, .int .i64 4], .bool true]) ∧ Below w.heap.size w w' := by
 have hi : ∀ w, (Instr.index 143 aXz.v (.int .i64 4)).run Tryz.prog w = .ok (.agg #[.string ⟨#[98, 98]⟩, .int .i64 8, .int .u32 285, .int .u8 98, .int .i64 4]) w := fun _ => by kernel_rfl
 go_enter Tryz.func75, Tryz.ntmps75
 go_wp2_with fail
 refine (aXz.any _).mono ?_
 rintro e w1 ⟨rfl, hb⟩
 have hh : w1.heap[w.heap.size]? = some (.cells #[.string ⟨#[]⟩, .int .i64 0, .int .u32 0, .int .u8 0, .int .i64 0] 109 (0, 0)) := (hb.block _ (by simp)).trans (heap_alloc_new _ _)
 go_wp2_with ((with_reducible refine bnz rfl ?_); (refine wpList_store_row rfl 109 _ _ rfl w.heap.size _ rfl rfl 109 _ hh kr_ rfl kr_ ?_))
 refine bodyPost_ret (v := .tuple #[.agg #[.string ⟨#[98, 98]⟩, .int .i64 8, .int .u32 285, .int .u8 98, .int .i64 4], .bool true]) ?_ rfl ⟨rfl, below_setRow (((Below.refl _ _).alloc (Nat.le_refl _) _).trans (hb.mono (by simp))) (Nat.le_refl _) _⟩
 rw [results_cell_tmp Tryz.results75]
 simp only [Array.getD_eq_getD_getElem?, List.getElem?_toArray, List.getElem?_cons_succ, List.getElem?_cons_zero, Option.getD_some, asAddr, Sem.run_pure, Result.andThen_ok]
 rw [run_loadVar_row _ w.heap.size 109 109 _ (0, 0) _ (setRow_heap _ _ _ _ _ _ hh) Tryz.underlying109 rfl kr_]
 rfl
theorem alz.at6 (w : World) :
  Calls Tryz.prog 75 #[.int .i64 6] w fun e w' => e = .returned (.tuple #[.agg #[.string ⟨#[107, 112]⟩, .int .i64 8, .int .u32 285, .int .u8 112, .int .i64 4], .bool true]) ∧ Below w.heap.size w w' := by
 have hi : ∀ w, (Instr.index 143 aXz.v (.int .i64 5)).run Tryz.prog w = .ok (.agg #[.string ⟨#[107, 112]⟩, .int .i64 8, .int .u32 285, .int .u8 112, .int .i64 4]) w := fun _ => by kernel_rfl
 go_enter Tryz.func75, Tryz.ntmps75
 go_wp2_with fail
 refine (aXz.any _).mono ?_
 rintro e w1 ⟨rfl, hb⟩
 have hh : w1.heap[w.heap.size]? = some (.cells #[.string ⟨#[]⟩, .int .i64 0, .int .u32 0, .int .u8 0, .int .i64 0] 109 (0, 0)) := (hb.block _ (by simp)).trans (heap_alloc_new _ _)
 go_wp2_with ((with_reducible refine bnz rfl ?_); (refine wpList_store_row rfl 109 _ _ rfl w.heap.size _ rfl rfl 109 _ hh kr_ rfl kr_ ?_))
 refine bodyPost_ret (v := .tuple #[.agg #[.string ⟨#[107, 112]⟩, .int .i64 8, .int .u32 285, .int .u8 112, .int .i64 4], .bool true]) ?_ rfl ⟨rfl, below_setRow (((Below.refl _ _).alloc (Nat.le_refl _) _).trans (hb.mono (by simp))) (Nat.le_refl _) _⟩
 rw [results_cell_tmp Tryz.results75]
 simp only [Array.getD_eq_getD_getElem?, List.getElem?_toArray, List.getElem?_cons_succ, List.getElem?_cons_zero, Option.getD_some, asAddr, Sem.run_pure, Result.andThen_ok]
 rw [run_loadVar_row _ w.heap.size 109 109 _ (0, 0) _ (setRow_heap _ _ _ _ _ _ hh) Tryz.underlying109 rfl kr_]
 rfl
theorem alz.calls (a0 : Int) (r1 : ByteArray) (r2 : Int) (r3 : Int) (r4 : Int) (r5 : Int) (r6 : Bool) (w : World) (h : alz.f a0 = some (r1, r2, r3, r4, r5, r6)) :
  Calls Tryz.prog 75 #[.int .i64 a0] w fun e w' => e = .returned (.tuple #[.agg #[.string r1, .int .i64 r2, .int .u32 r3, .int .u8 r4, .int .i64 r5], .bool r6]) ∧ Below w.heap.size w w' := by
 unfold alz.f at h
 by_cases h1 : a0 = 1
 ·subst h1; simp at h; obtain ⟨rfl, rfl, rfl, rfl, rfl, rfl⟩ := h; exact alz.at1 w
 rw [if_neg h1] at h
 by_cases h2 : a0 = 2
 ·subst h2; simp at h; obtain ⟨rfl, rfl, rfl, rfl, rfl, rfl⟩ := h; exact alz.at2 w
 rw [if_neg h2] at h
 by_cases h3 : a0 = 3
 ·subst h3; simp at h; obtain ⟨rfl, rfl, rfl, rfl, rfl, rfl⟩ := h; exact alz.at3 w
 rw [if_neg h3] at h
 by_cases h4 : a0 = 4
 ·subst h4; simp at h; obtain ⟨rfl, rfl, rfl, rfl, rfl, rfl⟩ := h; exact alz.at4 w
 rw [if_neg h4] at h
 by_cases h5 : a0 = 5
 ·subst h5; simp at h; obtain ⟨rfl, rfl, rfl, rfl, rfl, rfl⟩ := h; exact alz.at5 w
 rw [if_neg h5] at h
 by_cases h6 : a0 = 6
 ·subst h6; simp at h; obtain ⟨rfl, rfl, rfl, rfl, rfl, rfl⟩ := h; exact alz.at6 w
 rw [if_neg h6] at h
 simp at h; obtain ⟨rfl, rfl, rfl, rfl, rfl, rfl⟩ := h
 by_cases h0 : a0 < 1
 ·exact alz.low a0 w h0
 ·exact alz.high a0 w (by omega)
def adz.f (a0_0 : Int) (a0_1 : Int) (a0_2 : Int) : Option (Bool) := (alz.f a0_0).bind fun bt102 => (if bt102.2.2.2.2.2 = true then (if a0_1 ≥ 1 then (if a0_1 ≤ 8 then (if a0_2 ≥ 1 then (some (decide (a0_2 ≤ bt102.2.2.2.2.1))) else (some false)) else (some false)) else (some false)) else (some false))
set_option maxHeartbeats 8000000 in
set_option maxRecDepth 100000 in
theorem adz.calls (a0_0 : Int) (a0_1 : Int) (a0_2 : Int) (r : Bool) (w : World) (h : adz.f a0_0 a0_1 a0_2 = some r) :
  Calls Tryz.prog 41 #[.agg #[.int .i64 a0_0, .int .i64 a0_1, .int .i64 a0_2]] w fun e w' => e = .returned (.bool r) ∧ Below w.heap.size w w' := by
 have hu23 := Tryz.underlying23
 have hu109 := Tryz.underlying109
 have HB := Aside0.mk (Below.refl w.heap.size w)
 have H := h
 clear h
 unfold adz.f at H
 obtain ⟨⟨t102, t103, t104, t105, t106, t107⟩, A2, H⟩ := ob_ H
 (try dsimp only at H)
 by_cases c3 : t107 = true
 rotate_left
 ·replace c3 := Bool.eq_false_iff.mpr c3
  subst c3
  rw [if_neg (show ¬ (false = true) by decide)] at H
  obtain rfl := Option.some.inj H
  go_enter Tryz.func41, Tryz.ntmps41
  go_wp2_with (first | ((with_reducible refine aCz (N := 1) rfl ?_); refine bx_ 1 #[.int .i64 a0_0, .int .i64 a0_1, .int .i64 a0_2] 23 ?_; intro gb101 hg w35 hbox hb; have n_ := And.intro (hs_ HB hb) (And.intro (Aside0.mk (hbox)) (And.intro (ag_ HB gb101) (ag_ HB gb101))); clear HB; obtain ⟨HB, BK101, GW101, GE101⟩ := n_; clear hb hbox hg; obtain ⟨hcz36_0, hfz36_0, hcz36_1, hfz36_1, hcz36_2, hfz36_2⟩ := bc3_ BK101.out) | ((with_reducible refine acz (f := 75) rfl ?_); refine gl_ (some 8) Tryz.func75 #[.int .i64 a0_0] ?_; (with_reducible refine (alz.calls a0_0 t102 t103 t104 t105 t106 false _ A2.out).mono ?_); rintro e w37 ⟨rfl, hb⟩; refine ⟨_, rfl, ?_⟩; have n_ := And.intro (bb_ BK101 hb) (hs_ HB hb); clear BK101 HB; obtain ⟨BK101, HB⟩ := n_; (try clear hb)) | ((with_reducible refine aCz (N := 3) rfl ?_); refine byz ?hg (N := 3) ?hd (cs := #[.string (⟨#[]⟩ : ByteArray), .int .i64 0, .int .u32 0, .int .u8 0, .int .i64 0]) (t := 109) ?hr ?_; (case hd => rfl); (case hg => rfl); (case hr => first | (go_simp; done) | (go_simp; rfl)); intro gb108 hg w38 hbox hb; have n_ := And.intro (bb_ BK101 hb) (And.intro (hs_ HB hb) (And.intro (Aside0.mk (hbox)) (And.intro (ag_ HB gb108) (And.intro (ag_ HB gb108) (And.intro (n1_ BK101 gb108) (n2_ BK101 gb108)))))); clear BK101 HB; obtain ⟨BK101, HB, BK108, GW108, GE108, NB101_108, NB108_101⟩ := n_; clear hb hbox hg; have hnb39 := NB108_101.out; have hnc39 := NB101_108.out; obtain ⟨hcz40_0, hfz40_0, hcz40_1, hfz40_1, hcz40_2, hfz40_2, hcz40_3, hfz40_3, hcz40_4, hfz40_4⟩ := bc5_ BK108.out))
  go_ret
  exact ⟨er_, bl_⟩
 subst c3
 rw [if_pos rfl] at H
 by_cases c4 : a0_1 ≥ 1
 rotate_left
 ·rw [if_neg c4] at H
  have c4b0 : decide (1 ≤ a0_1) = false := decide_eq_false c4
  clear c4
  obtain rfl := Option.some.inj H
  go_enter Tryz.func41, Tryz.ntmps41
  go_wp2_with (first | ((with_reducible refine aCz (N := 1) rfl ?_); refine bx_ 1 #[.int .i64 a0_0, .int .i64 a0_1, .int .i64 a0_2] 23 ?_; intro gb101 hg w28 hbox hb; have n_ := And.intro (hs_ HB hb) (And.intro (Aside0.mk (hbox)) (And.intro (ag_ HB gb101) (ag_ HB gb101))); clear HB; obtain ⟨HB, BK101, GW101, GE101⟩ := n_; clear hb hbox hg; obtain ⟨hcz29_0, hfz29_0, hcz29_1, hfz29_1, hcz29_2, hfz29_2⟩ := bc3_ BK101.out) | ((with_reducible refine acz (f := 75) rfl ?_); refine gl_ (some 8) Tryz.func75 #[.int .i64 a0_0] ?_; (with_reducible refine (alz.calls a0_0 t102 t103 t104 t105 t106 true _ A2.out).mono ?_); rintro e w30 ⟨rfl, hb⟩; refine ⟨_, rfl, ?_⟩; have n_ := And.intro (bb_ BK101 hb) (hs_ HB hb); clear BK101 HB; obtain ⟨BK101, HB⟩ := n_; (try clear hb)) | ((with_reducible refine aCz (N := 3) rfl ?_); refine byz ?hg (N := 3) ?hd (cs := #[.string (⟨#[]⟩ : ByteArray), .int .i64 0, .int .u32 0, .int .u8 0, .int .i64 0]) (t := 109) ?hr ?_; (case hd => rfl); (case hg => rfl); (case hr => first | (go_simp; done) | (go_simp; rfl)); intro gb108 hg w31 hbox hb; have n_ := And.intro (bb_ BK101 hb) (And.intro (hs_ HB hb) (And.intro (Aside0.mk (hbox)) (And.intro (ag_ HB gb108) (And.intro (ag_ HB gb108) (And.intro (n1_ BK101 gb108) (n2_ BK101 gb108)))))); clear BK101 HB; obtain ⟨BK101, HB, BK108, GW108, GE108, NB101_108, NB108_101⟩ := n_; clear hb hbox hg; have hnb32 := NB108_101.out; have hnc32 := NB101_108.out; obtain ⟨hcz33_0, hfz33_0, hcz33_1, hfz33_1, hcz33_2, hfz33_2, hcz33_3, hfz33_3, hcz33_4, hfz33_4⟩ := bc5_ BK108.out; obtain ⟨hcz34_0, hfz34_0, hcz34_1, hfz34_1, hcz34_2, hfz34_2⟩ := bc3_ BK101.out))
  go_ret
  exact ⟨er_, bl_⟩
 rw [if_pos c4] at H
 have c4b0 : decide (1 ≤ a0_1) = true := decide_eq_true c4
 clear c4
 by_cases c5 : a0_1 ≤ 8
 rotate_left
 ·rw [if_neg c5] at H
  have c5b0 := decide_eq_false c5
  clear c5
  obtain rfl := Option.some.inj H
  go_enter Tryz.func41, Tryz.ntmps41
  go_wp2_with (first | ((with_reducible refine aCz (N := 1) rfl ?_); refine bx_ 1 #[.int .i64 a0_0, .int .i64 a0_1, .int .i64 a0_2] 23 ?_; intro gb101 hg w21 hbox hb; have n_ := And.intro (hs_ HB hb) (And.intro (Aside0.mk (hbox)) (And.intro (ag_ HB gb101) (ag_ HB gb101))); clear HB; obtain ⟨HB, BK101, GW101, GE101⟩ := n_; clear hb hbox hg; obtain ⟨hcz22_0, hfz22_0, hcz22_1, hfz22_1, hcz22_2, hfz22_2⟩ := bc3_ BK101.out) | ((with_reducible refine acz (f := 75) rfl ?_); refine gl_ (some 8) Tryz.func75 #[.int .i64 a0_0] ?_; (with_reducible refine (alz.calls a0_0 t102 t103 t104 t105 t106 true _ A2.out).mono ?_); rintro e w23 ⟨rfl, hb⟩; refine ⟨_, rfl, ?_⟩; have n_ := And.intro (bb_ BK101 hb) (hs_ HB hb); clear BK101 HB; obtain ⟨BK101, HB⟩ := n_; (try clear hb)) | ((with_reducible refine aCz (N := 3) rfl ?_); refine byz ?hg (N := 3) ?hd (cs := #[.string (⟨#[]⟩ : ByteArray), .int .i64 0, .int .u32 0, .int .u8 0, .int .i64 0]) (t := 109) ?hr ?_; (case hd => rfl); (case hg => rfl); (case hr => first | (go_simp; done) | (go_simp; rfl)); intro gb108 hg w24 hbox hb; have n_ := And.intro (bb_ BK101 hb) (And.intro (hs_ HB hb) (And.intro (Aside0.mk (hbox)) (And.intro (ag_ HB gb108) (And.intro (ag_ HB gb108) (And.intro (n1_ BK101 gb108) (n2_ BK101 gb108)))))); clear BK101 HB; obtain ⟨BK101, HB, BK108, GW108, GE108, NB101_108, NB108_101⟩ := n_; clear hb hbox hg; have hnb25 := NB108_101.out; have hnc25 := NB101_108.out; obtain ⟨hcz26_0, hfz26_0, hcz26_1, hfz26_1, hcz26_2, hfz26_2, hcz26_3, hfz26_3, hcz26_4, hfz26_4⟩ := bc5_ BK108.out; obtain ⟨hcz27_0, hfz27_0, hcz27_1, hfz27_1, hcz27_2, hfz27_2⟩ := bc3_ BK101.out))
  go_ret
  exact ⟨er_, bl_⟩
 rw [if_pos c5] at H
 have c5b0 := decide_eq_true c5
 clear c5
 by_cases c6 : a0_2 ≥ 1
 ·rw [if_pos c6] at H
  have c6b0 : decide (1 ≤ a0_2) = true := decide_eq_true c6
  clear c6
  obtain rfl := Option.some.inj H
  go_enter Tryz.func41, Tryz.ntmps41
  go_wp2_with (first | ((with_reducible refine aCz (N := 1) rfl ?_); refine bx_ 1 #[.int .i64 a0_0, .int .i64 a0_1, .int .i64 a0_2] 23 ?_; intro gb101 hg w7 hbox hb; have n_ := And.intro (hs_ HB hb) (And.intro (Aside0.mk (hbox)) (And.intro (ag_ HB gb101) (ag_ HB gb101))); clear HB; obtain ⟨HB, BK101, GW101, GE101⟩ := n_; clear hb hbox hg; obtain ⟨hcz8_0, hfz8_0, hcz8_1, hfz8_1, hcz8_2, hfz8_2⟩ := bc3_ BK101.out) | ((with_reducible refine acz (f := 75) rfl ?_); refine gl_ (some 8) Tryz.func75 #[.int .i64 a0_0] ?_; (with_reducible refine (alz.calls a0_0 t102 t103 t104 t105 t106 true _ A2.out).mono ?_); rintro e w9 ⟨rfl, hb⟩; refine ⟨_, rfl, ?_⟩; have n_ := And.intro (bb_ BK101 hb) (hs_ HB hb); clear BK101 HB; obtain ⟨BK101, HB⟩ := n_; (try clear hb)) | ((with_reducible refine aCz (N := 3) rfl ?_); refine byz ?hg (N := 3) ?hd (cs := #[.string (⟨#[]⟩ : ByteArray), .int .i64 0, .int .u32 0, .int .u8 0, .int .i64 0]) (t := 109) ?hr ?_; (case hd => rfl); (case hg => rfl); (case hr => first | (go_simp; done) | (go_simp; rfl)); intro gb108 hg w10 hbox hb; have n_ := And.intro (bb_ BK101 hb) (And.intro (hs_ HB hb) (And.intro (Aside0.mk (hbox)) (And.intro (ag_ HB gb108) (And.intro (ag_ HB gb108) (And.intro (n1_ BK101 gb108) (n2_ BK101 gb108)))))); clear BK101 HB; obtain ⟨BK101, HB, BK108, GW108, GE108, NB101_108, NB108_101⟩ := n_; clear hb hbox hg; have hnb11 := NB108_101.out; have hnc11 := NB101_108.out; obtain ⟨hcz12_0, hfz12_0, hcz12_1, hfz12_1, hcz12_2, hfz12_2, hcz12_3, hfz12_3, hcz12_4, hfz12_4⟩ := bc5_ BK108.out; obtain ⟨hcz13_0, hfz13_0, hcz13_1, hfz13_1, hcz13_2, hfz13_2⟩ := bc3_ BK101.out))
  go_ret
  exact ⟨er_, bl_⟩
 ·rw [if_neg c6] at H
  have c6b0 : decide (1 ≤ a0_2) = false := decide_eq_false c6
  clear c6
  obtain rfl := Option.some.inj H
  go_enter Tryz.func41, Tryz.ntmps41
  go_wp2_with (first | ((with_reducible refine aCz (N := 1) rfl ?_); refine bx_ 1 #[.int .i64 a0_0, .int .i64 a0_1, .int .i64 a0_2] 23 ?_; intro gb101 hg w14 hbox hb; have n_ := And.intro (hs_ HB hb) (And.intro (Aside0.mk (hbox)) (And.intro (ag_ HB gb101) (ag_ HB gb101))); clear HB; obtain ⟨HB, BK101, GW101, GE101⟩ := n_; clear hb hbox hg; obtain ⟨hcz15_0, hfz15_0, hcz15_1, hfz15_1, hcz15_2, hfz15_2⟩ := bc3_ BK101.out) | ((with_reducible refine acz (f := 75) rfl ?_); refine gl_ (some 8) Tryz.func75 #[.int .i64 a0_0] ?_; (with_reducible refine (alz.calls a0_0 t102 t103 t104 t105 t106 true _ A2.out).mono ?_); rintro e w16 ⟨rfl, hb⟩; refine ⟨_, rfl, ?_⟩; have n_ := And.intro (bb_ BK101 hb) (hs_ HB hb); clear BK101 HB; obtain ⟨BK101, HB⟩ := n_; (try clear hb)) | ((with_reducible refine aCz (N := 3) rfl ?_); refine byz ?hg (N := 3) ?hd (cs := #[.string (⟨#[]⟩ : ByteArray), .int .i64 0, .int .u32 0, .int .u8 0, .int .i64 0]) (t := 109) ?hr ?_; (case hd => rfl); (case hg => rfl); (case hr => first | (go_simp; done) | (go_simp; rfl)); intro gb108 hg w17 hbox hb; have n_ := And.intro (bb_ BK101 hb) (And.intro (hs_ HB hb) (And.intro (Aside0.mk (hbox)) (And.intro (ag_ HB gb108) (And.intro (ag_ HB gb108) (And.intro (n1_ BK101 gb108) (n2_ BK101 gb108)))))); clear BK101 HB; obtain ⟨BK101, HB, BK108, GW108, GE108, NB101_108, NB108_101⟩ := n_; clear hb hbox hg; have hnb18 := NB108_101.out; have hnc18 := NB101_108.out; obtain ⟨hcz19_0, hfz19_0, hcz19_1, hfz19_1, hcz19_2, hfz19_2, hcz19_3, hfz19_3, hcz19_4, hfz19_4⟩ := bc5_ BK108.out; obtain ⟨hcz20_0, hfz20_0, hcz20_1, hfz20_1, hcz20_2, hfz20_2⟩ := bc3_ BK101.out))
  go_ret
  exact ⟨er_, bl_⟩
mutual
def agz.l0 : Nat → List Int → List (List Int) → Int → Int → Option (List Int × Int)
 | 0, _, _, _, _ => none
 | k + 1, x4, x14, x15, x16 => if x16 < x15 then (if 0 ≤ x16 then (if x16 < (x14.length : Int) then (if ((rd_L1 x14 x16).length : Int) = (x4.length : Int) then (agz.l1 k x4 x14 x15 x16 (rd_L1 x14 x16) ((rd_L1 x14 x16).length : Int) 0) else (some (([] : List Int), 1))) else (none)) else (none)) else (some (x4, 0))
def agz.l1 : Nat → List Int → List (List Int) → Int → Int → List Int → Int → Int → Option (List Int × Int)
 | 0, _, _, _, _, _, _, _ => none
 | k + 1, x4, x14, x15, x16, x25, x26, x27 => if x27 < x26 then (if 0 ≤ x27 then (if x27 < (x25.length : Int) then (if x27 < (x4.length : Int) then (agz.l1 k (x4.set (x27 : Int).toNat (Go.bits .xor .u8 (rd x4 x27) (rd x25 x27))) x14 x15 x16 x25 x26 (wrap64 (x27 + 1))) else (none)) else (none)) else (none)) else (agz.l0 k x4 x14 x15 (wrap64 (x16 + 1)))
end
def agz.f (k : Nat) (l0 : List (List Int)) : Option (List Int × Int) := if 0 < (l0.length : Int) then (if 0 ≤ ((rd_L1 l0 0).length : Int) then (if (((rd_L1 l0 0).length : Int) : Int).toNat ≤ 281474976710656 then (agz.l0 k (List.replicate (((rd_L1 l0 0).length : Int) : Int).toNat 0) l0 (l0.length : Int) 0) else (none)) else (none)) else (none)
theorem agz.cxz : ∀ k, (∀ y0 y1 y2 y3, LeO (agz.l0 k y0 y1 y2 y3) (agz.l0 (k + 1) y0 y1 y2 y3)) ∧ (∀ y0 y1 y2 y3 y4 y5 y6, LeO (agz.l1 k y0 y1 y2 y3 y4 y5 y6) (agz.l1 (k + 1) y0 y1 y2 y3 y4 y5 y6))
 | 0 => ⟨fun _ _ _ _ r h => by simp [agz.l0] at h, fun _ _ _ _ _ _ _ r h => by simp [agz.l1] at h⟩
 | k + 1 => by
  obtain ⟨ih0, ih1⟩ := agz.cxz k
  refine ⟨?_, ?_⟩
  ·intro y0 y1 y2 y3
   unfold agz.l0
   repeat' first
   | (with_reducible exact ih0 _ _ _ _)
   | (with_reducible exact ih1 _ _ _ _ _ _ _)
   | (with_reducible exact LeO.refl _)
   | (with_reducible exact LeO.none _)
   | (with_reducible refine LeO.ite ?_ ?_)
   | (with_reducible refine LeO.bind ?_ (fun _ => ?_))
   | exact ih0 _ _ _ _
   | exact ih1 _ _ _ _ _ _ _
   | exact LeO.none _
   | refine LeO.ite ?_ ?_
   | refine LeO.bind ?_ (fun _ => ?_)
  ·intro y0 y1 y2 y3 y4 y5 y6
   unfold agz.l1
   repeat' first
   | (with_reducible exact ih0 _ _ _ _)
   | (with_reducible exact ih1 _ _ _ _ _ _ _)
   | (with_reducible exact LeO.refl _)
   | (with_reducible exact LeO.none _)
   | (with_reducible refine LeO.ite ?_ ?_)
   | (with_reducible refine LeO.bind ?_ (fun _ => ?_))
   | exact ih0 _ _ _ _
   | exact ih1 _ _ _ _ _ _ _
   | exact LeO.none _
   | refine LeO.ite ?_ ?_
   | refine LeO.bind ?_ (fun _ => ?_)
theorem agz.mono : ∀ a0 k, LeO (agz.f k a0) (agz.f (k + 1) a0) := by
 intro a0 k
 obtain ⟨ih0, ih1⟩ := agz.cxz k
 unfold agz.f
 repeat' first
   | (with_reducible exact ih0 _ _ _ _)
   | (with_reducible exact ih1 _ _ _ _ _ _ _)
   | (with_reducible exact LeO.refl _)
   | (with_reducible exact LeO.none _)
   | (with_reducible refine LeO.ite ?_ ?_)
   | (with_reducible refine LeO.bind ?_ (fun _ => ?_))
   | exact ih0 _ _ _ _
   | exact ih1 _ _ _ _ _ _ _
   | exact LeO.none _
   | refine LeO.ite ?_ ?_
   | refine LeO.bind ?_ (fun _ => ?_)
set_option maxHeartbeats 8000000 in
set_option maxRecDepth 100000 in
theorem agz.calls (k : Nat) (A0 : Option Addr) (c0 : Nat) (l0 : List (List Int)) (r1 : List Int) (r2 : Int) (w : World) (hr0 : Kd.C (Kd.slice 5 (Kd.int .u8)) w A0 l0.length l0) (hc0 : l0.length ≤ c0) (h : agz.f k l0 = some (r1, r2)) :
  Calls Tryz.prog 82 #[.slice A0 l0.length c0] w fun e w' => ∃ v0_ : Value, e = .returned (.tuple #[v0_, .int .i64 r2]) ∧ Kd.R (Kd.int .u8) 5 w' w.heap.size (fun _ => True) v0_ r1 ∧ Below w.heap.size w w' := by
 have HR0 := Aside0.mk hr0
 have HC0 := Aside0.mk hc0
 clear hr0 hc0
 have HB := Aside0.mk (Below.refl w.heap.size w)
 have H := h
 clear h
 unfold agz.f at H
 by_cases c2 : 0 < (l0.length : Int)
 rotate_left
 ·rw [if_neg c2] at H
  exact absurd H (by simp)
 rw [if_pos c2] at H
 have c2b0 := decide_eq_true c2
 have c2b1 : decide (0 < l0.length) = true := decide_eq_true (by omega)
 clear c2
 by_cases c3 : 0 ≤ ((rd_L1 l0 0).length : Int)
 rotate_left
 ·rw [if_neg c3] at H
  exact absurd H (by simp)
 rw [if_pos c3] at H
 have c3b0 := eq_true c3
 have c3b1 := decide_eq_true c3
 clear c3
 by_cases c4 : (((rd_L1 l0 0).length : Int) : Int).toNat ≤ 281474976710656
 rotate_left
 ·rw [if_neg c4] at H
  exact absurd H (by simp)
 rw [if_pos c4] at H
 have c4b0 := eq_true c4
 have c4b1 := decide_eq_true c4
 clear c4
 obtain ⟨y110, hy110⟩ : ∃ y_ : List Int, y_ = (List.replicate (((rd_L1 l0 0).length : Int) : Int).toNat 0) := ⟨_, rfl⟩
 first | rw [Option.bind_some, ← hy110] at H | rw [← hy110] at H
 (try dsimp only at H)
 have Ny110 := Aside0.mk hy110
 clear hy110
 have H' := Aside0.mk H
 clear H
 have p109 : 0 ≤ (0 : Int) := (by omega)
 have q109 : 0 < (l0.length : Int) := of_decide_eq_true as_
 obtain ⟨ad109, A109_0, c109_0, e109, hx109_0, hl109_0, hi109_0⟩ := at_L1 HR0.out 0 p109 q109
 cases e109
 have qi109 : (0 < l0.length) = True := eq_true (by omega)
 (try rw [show ((0 : Int)).toNat = 0 from rfl] at hx109_0)
 (try rw [Addr.add_zero'] at hx109_0)
 have HR109_0 := Aside0.mk hi109_0
 have HC109_0 := Aside0.mk hl109_0
 clear hi109_0 hl109_0
 replace p109 := eq_true p109
 replace q109 := eq_true q109
 go_enter Tryz.func82, Tryz.ntmps82
 go_wp2_with (first | ((with_reducible refine aCz (N := 13) rfl ?_); refine Kd.R_make (Kd.int .u8) _ 5 rfl (N := 13) rfl 34 _ _ rfl ((rd_L1 l0 0).length : Int) rfl rfl Tryz.underlying34 (.int .u8 0) 1 info5 rfl (by decide) (by omega) 0 (ok := fun _ => True) (okp := fun _ => True) rfl (fun _ hk => hk) trivial (of_decide_eq_true as_) (Nat.le_trans (Nat.mul_le_mul_right _ (of_decide_eq_true as_ : ((rd_L1 l0 0).length : Int).toNat ≤ 281474976710656)) (by omega)) (Below.refl _ _) (Nat.le_refl _) ?_; intro v111 w5 ho6 hb hg_ hnew_; clear hg_ hnew_; (first | rw [← Ny110.out] at ho6 | (simp only [Int.reduceToNat] at ho6; rw [← Ny110.out] at ho6)); have n_ := And.intro (Aside0.mk (Kd.baz ho6 (aVz bl_))) (hs_ HB hb); clear HB; obtain ⟨HO112, HB⟩ := n_; clear hb ho6))
 go_loopg [16] k (fun kq v16 w' => ∃ (x4_1 : List Int) (x16_1 : Int), v16 = .int .i64 x16_1 ∧ Aside0 (agz.l0 kq x4_1 l0 (l0.length : Int) x16_1 = some (r1, r2)) ∧ Aside0 (kq ≤ k) ∧ Aside0 (Kd.R (Kd.int .u8) 5 w' w.heap.size (fun _ => True) v111 x4_1) ∧ Aside0 (Below w.heap.size w w'))
 case atStart => exact ⟨(y110), (0), sd_, H', ⟨Nat.le_refl _⟩, ⟨xd_ HO112.out⟩, ⟨bl_⟩⟩
 clear H'
 try clear c1
 try clear p1
 try clear q1
 try clear hx1
 try clear qi1
 try clear c2
 try clear c2b0
 try clear c2b1
 try clear p2
 try clear c3
 try clear c3b0
 try clear c3b1
 try clear c4
 try clear c4b0
 try clear c4b1
 try clear hx109_0
 try clear p109
 try clear q109
 obtain ⟨x4_1, x16_1, rfl, HA, HK1, HO_4, HB⟩ := hrel
 rcases gk with _ | k1
 ·exact absurd HA.out (by simp [agz.l0])
 have H := HA.out
 clear HA
 simp only [agz.l0] at H
 by_cases c7 : x16_1 < (l0.length : Int)
 rotate_left
 ·rw [if_neg c7] at H
  have c7b0 := decide_eq_false c7
  clear c7
  simp only [Option.some.injEq, Prod.mk.injEq] at H
  obtain ⟨rfl, rfl⟩ := H
  go_wp2
  go_ret2
  exact ⟨_, er_, xd_ HO_4.out, bl_⟩
 rw [if_pos c7] at H
 have c7b0 := decide_eq_true c7
 clear c7
 by_cases c8 : 0 ≤ x16_1
 rotate_left
 ·rw [if_neg c8] at H
  exact absurd H (by simp)
 rw [if_pos c8] at H
 have c8b0 := decide_eq_true c8
 clear c8
 by_cases c9 : x16_1 < (l0.length : Int)
 rotate_left
 ·rw [if_neg c9] at H
  exact absurd H (by simp)
 rw [if_pos c9] at H
 have c9b0 := decide_eq_true c9
 clear c9
 by_cases c10 : ((rd_L1 l0 x16_1).length : Int) = (x4_1.length : Int)
 rotate_left
 ·rw [if_neg c10] at H
  have c10b0 : (((rd_L1 l0 x16_1).length : Int) == (x4_1.length : Int)) = false := beq_eq_false_iff_ne.mpr c10
  have c10b1 : (((rd_L1 l0 x16_1).length : Int) != (x4_1.length : Int)) = true := bne_iff_ne.mpr c10
  have c10b2 : ((rd_L1 l0 x16_1).length == x4_1.length) = false := by first | simpa using c10 | (simp at c10 ⊢; omega)
  simp only [Option.some.injEq, Prod.mk.injEq] at H
  obtain ⟨rfl, rfl⟩ := H
  have p113 : 0 ≤ (x16_1 : Int) := of_decide_eq_true as_
  have q113 : x16_1 < (l0.length : Int) := of_decide_eq_true as_
  obtain ⟨ad113, A113_0, c113_0, e113, hx113_0, hl113_0, hi113_0⟩ := at_L1 HR0.out x16_1 p113 q113
  obtain rfl : ad109 = ad113 := (by injection e113)
  replace hx113_0 := (HB.out.cell (World.block_lt_of_cell? w _ hx113_0)).trans hx113_0
  have HR113_0 := Aside0.mk hi113_0
  have HC113_0 := Aside0.mk hl113_0
  clear hi113_0 hl113_0
  replace p113 := eq_true p113
  replace q113 := eq_true q113
  obtain ⟨Ao19, co19, eo19⟩ := Kd.aWz HO_4.out
  subst eo19
  go_wp2
  go_ret2
  exact ⟨_, er_, nl_, bl_⟩
 rw [if_pos c10] at H
 have c10b0 : (((rd_L1 l0 x16_1).length : Int) == (x4_1.length : Int)) = true := beq_iff_eq.mpr c10
 have c10b1 : (((rd_L1 l0 x16_1).length : Int) != (x4_1.length : Int)) = false := bne_eq_false_iff_eq.mpr c10
 have c10b2 : ((rd_L1 l0 x16_1).length == x4_1.length) = true := by first | simpa using c10 | (simp at c10 ⊢; omega)
 clear c10
 have H' := Aside0.mk H
 clear H
 have p113 : 0 ≤ (x16_1 : Int) := of_decide_eq_true as_
 have q113 : x16_1 < (l0.length : Int) := of_decide_eq_true as_
 obtain ⟨ad113, A113_0, c113_0, e113, hx113_0, hl113_0, hi113_0⟩ := at_L1 HR0.out x16_1 p113 q113
 obtain rfl : ad109 = ad113 := (by injection e113)
 replace hx113_0 := (HB.out.cell (World.block_lt_of_cell? w _ hx113_0)).trans hx113_0
 have HR113_0 := Aside0.mk hi113_0
 have HC113_0 := Aside0.mk hl113_0
 clear hi113_0 hl113_0
 replace p113 := eq_true p113
 replace q113 := eq_true q113
 obtain ⟨Ao11, co11, eo11⟩ := Kd.aWz HO_4.out
 subst eo11
 go_wp2
 go_loopg [27] k1 (fun kq v27 w' => ∃ (x4_2 : List Int) (x27_2 : Int), v27 = .int .i64 x27_2 ∧ Aside0 (agz.l1 kq x4_2 l0 (l0.length : Int) x16_1 (rd_L1 l0 x16_1) ((rd_L1 l0 x16_1).length : Int) x27_2 = some (r1, r2)) ∧ Aside0 (kq ≤ k1) ∧ Aside0 (Kd.R (Kd.int .u8) 5 w' w.heap.size (fun _ => True) (.slice Ao11 x4_1.length co11) x4_2) ∧ Aside0 (Below w.heap.size w w'))
 case atStart => exact ⟨(x4_1), (0), sd_, H', ⟨Nat.le_refl _⟩, ⟨xd_ HO_4.out⟩, ⟨bl_⟩⟩
 clear H'
 try clear c1
 try clear p1
 try clear q1
 try clear hx1
 try clear qi1
 try clear c2
 try clear c2b0
 try clear c2b1
 try clear p2
 try clear c3
 try clear c3b0
 try clear c3b1
 try clear c4
 try clear c4b0
 try clear c4b1
 try clear c7
 try clear c7b0
 try clear c8
 try clear c8b0
 try clear c9
 try clear c9b0
 try clear c10
 try clear c10b0
 try clear c10b1
 try clear c10b2
 try clear p10
 try clear q10
 try clear hx10
 try clear qi10
 try clear c11
 try clear p11
 try clear q11
 try clear hx11
 try clear hx109_0
 try clear hx113_0
 try clear p1
 try clear p109
 try clear p113
 try clear p2
 try clear q1
 try clear q109
 try clear q113
 obtain ⟨x4_2, x27_2, rfl, HA, HK2, HO_4, HB⟩ := hrel
 have hl4_2 := (Kd.aQz HO_4.out).1
 rw [hl4_2] at HO_4
 (try simp only [hl4_2])
 rcases gk with _ | k2
 ·exact absurd HA.out (by simp [agz.l1])
 have H := HA.out
 clear HA
 simp only [agz.l1] at H
 by_cases c12 : x27_2 < ((rd_L1 l0 x16_1).length : Int)
 rotate_left
 ·rw [if_neg c12] at H
  have c12b0 := decide_eq_false c12
  clear c12
  have H' := Aside0.mk H
  clear H
  go_wp2
  (try simp only [← hl4_2])
  go_roundg k2
  case measure => have := HK1.out; have := HK2.out; omega
  case rel => exact ⟨(x4_2), (wrap64 (x16_1 + 1)), sd_, H', ⟨by have := HK1.out; have := HK2.out; omega⟩, ⟨by (try simp only [hl4_2]); (with_reducible repeat (first | apply Kd.R_alloc | apply Kd.b3z | apply Kd.csz)); exact HO_4.out⟩, ⟨bl_⟩⟩
 rw [if_pos c12] at H
 have c12b0 := decide_eq_true c12
 clear c12
 by_cases c13 : 0 ≤ x27_2
 rotate_left
 ·rw [if_neg c13] at H
  exact absurd H (by simp)
 rw [if_pos c13] at H
 have c13b0 := decide_eq_true c13
 clear c13
 by_cases c14 : x27_2 < ((rd_L1 l0 x16_1).length : Int)
 rotate_left
 ·rw [if_neg c14] at H
  exact absurd H (by simp)
 rw [if_pos c14] at H
 have c14b0 := decide_eq_true c14
 clear c14
 by_cases c15 : x27_2 < (x4_2.length : Int)
 rotate_left
 ·rw [if_neg c15] at H
  exact absurd H (by simp)
 rw [if_pos c15] at H
 have c15b0 := decide_eq_true c15
 clear c15
 obtain ⟨y116, hy116⟩ : ∃ y_ : List Int, y_ = (x4_2.set (x27_2 : Int).toNat (Go.bits .xor .u8 (rd x4_2 x27_2) (rd (rd_L1 l0 x16_1) x27_2))) := ⟨_, rfl⟩
 first | rw [Option.bind_some, ← hy116] at H | rw [← hy116] at H
 (try dsimp only at H)
 have Ny116 := Aside0.mk hy116
 clear hy116
 have H' := Aside0.mk H
 clear H
 have p114 : 0 ≤ (x27_2 : Int) := of_decide_eq_true as_
 have q114 : x27_2 < ((rd_L1 l0 x16_1).length : Int) := of_decide_eq_true as_
 obtain ⟨ad114, e114, hx114_0⟩ := Kd.bTz HR113_0.out x27_2 p114 q114
 cases e114
 replace hx114_0 := (HB.out.cell (World.block_lt_of_cell? w _ hx114_0)).trans hx114_0
 replace p114 := eq_true p114
 replace q114 := eq_true q114
 have p115 : 0 ≤ (x27_2 : Int) := of_decide_eq_true as_
 have q115 : x27_2 < (x4_2.length : Int) := of_decide_eq_true as_
 obtain ⟨ad115, e115, hx115_0⟩ := Kd.bTz (Kd.aQz HO_4.out).2.2 x27_2 p115 q115
 cases e115
 replace p115 := eq_true p115
 replace q115 := eq_true q115
 have p16 : 0 ≤ (x27_2 : Int) := of_decide_eq_true as_
 have q16 : (x27_2 : Int) < ((x4_2.length : Int) : Int) := of_decide_eq_true as_
 obtain ⟨go16, co16, eo16, gb16, gl16, cl16, HG16⟩ := Kd.b7z HO_4.out (by omega)
 (first | cases eo16 | (injection eo16 with ea_ en_ ec_; (first | subst ea_ | (injection ea_ with ea_; subst ea_)); subst ec_; clear en_))
 have GB16 := Aside0.mk gb16
 have GG16 := Aside0.mk HG16
 clear gb16 gl16 HG16
 (first | simp only [add_plain] at hx115_0 | skip)
 obtain ⟨hx16_0, hf16_0⟩ := Kd.R_celln 0 HO_4.out (x27_2 : Int) p16 q16
 replace p16 := eq_true p16
 replace q16 := eq_true q16
 have HP17 := Kd.R_putg HO_4.out (x27_2 : Int) (Go.bits .xor .u8 (rd x4_2 x27_2) (rd (rd_L1 l0 x16_1) x27_2))
 go_wp2_with (first | ((with_reducible refine bnz (t := 5) (p := 38) rfl ?_); refine dcz (t := 5) (p := 38) (v := ?vo_w18) (w1 := (wr.setCell ⟨go16, (x27_2 : Int).toNat, none⟩ (.int .u8 (Go.bits .xor .u8 (rd x4_2 x27_2) (rd (rd_L1 l0 x16_1) x27_2))))) ?hg ?ho ?hn ?hr ?_; (case ho => rfl); (case hg => rfl); (case hn => rfl); (case hr => first | (go_simp; done) | (go_simp; rfl)); intro w18 hw; have hg : wr.grownBy w18 (some go16) := (by rw [hw]; exact HP17.2); have hp_ : Kd.R (Kd.int .u8) 5 w18 w.heap.size (fun _ => True) (.slice (some ⟨go16, 0, none⟩) x4_2.length co11) y116 := (by rw [hw, Ny116.out]; exact HP17.1); clear HP17; have n_ := And.intro (Aside0.mk (hp_)) (Aside0.mk ((by rw [hw]; exact cvz (HB.out) GB16.out : Below w.heap.size w w18))); clear HO_4 HB; obtain ⟨HO_4, HB⟩ := n_; clear hg hw hp_))
 (try simp only [← hl4_2])
 go_roundg k2
 case measure => have := HK1.out; have := HK2.out; omega
 case rel => exact ⟨(y116), (wrap64 (x27_2 + 1)), sd_, H', ⟨by have := HK1.out; have := HK2.out; omega⟩, ⟨by (try simp only [hl4_2]); (with_reducible repeat (first | apply Kd.R_alloc | apply Kd.b3z | apply Kd.csz)); exact HO_4.out⟩, ⟨bl_⟩⟩
def bpz.f (a0_0 : Int) (a0_1 : Int) (a0_2 : Int) : Option (Int × Int) := (alz.f a0_0).bind fun bt120 => (if bt120.2.2.2.1 = 106 then (some (8, 0)) else (if bt120.2.2.2.1 = 105 then (some (16, 0)) else (if bt120.2.2.2.1 = 98 then (some (1, 4)) else (some (1, 0)))))
set_option maxHeartbeats 8000000 in
set_option maxRecDepth 100000 in
theorem bpz.calls (a0_0 : Int) (a0_1 : Int) (a0_2 : Int) (r1 : Int) (r2 : Int) (w : World) (h : bpz.f a0_0 a0_1 a0_2 = some (r1, r2)) :
  Calls Tryz.prog 89 #[.agg #[.int .i64 a0_0, .int .i64 a0_1, .int .i64 a0_2]] w fun e w' => e = .returned (.tuple #[.int .i64 r1, .int .i64 r2]) ∧ Below w.heap.size w w' := by
 have hu23 := Tryz.underlying23
 have hu109 := Tryz.underlying109
 have HB := Aside0.mk (Below.refl w.heap.size w)
 have H := h
 clear h
 unfold bpz.f at H
 obtain ⟨⟨t120, t121, t122, t123, t124, t125⟩, A2, H⟩ := ob_ H
 (try dsimp only at H)
 by_cases c3 : t123 = 106
 ·rw [if_pos c3] at H
  have c3b0 : (t123 == 106) = true := beq_iff_eq.mpr c3
  have c3b1 : (t123 != 106) = false := bne_eq_false_iff_eq.mpr c3
  clear c3
  simp only [Option.some.injEq, Prod.mk.injEq] at H
  obtain ⟨rfl, rfl⟩ := H
  go_enter Tryz.func89, Tryz.ntmps89
  go_wp2_with (first | ((with_reducible refine aCz (N := 1) rfl ?_); refine bx_ 1 #[.int .i64 a0_0, .int .i64 a0_1, .int .i64 a0_2] 23 ?_; intro gb119 hg w4 hbox hb; have n_ := And.intro (hs_ HB hb) (And.intro (Aside0.mk (hbox)) (And.intro (ag_ HB gb119) (ag_ HB gb119))); clear HB; obtain ⟨HB, BK119, GW119, GE119⟩ := n_; clear hb hbox hg; obtain ⟨hcz5_0, hfz5_0, hcz5_1, hfz5_1, hcz5_2, hfz5_2⟩ := bc3_ BK119.out) | ((with_reducible refine acz (f := 75) rfl ?_); refine gl_ (some 9) Tryz.func75 #[.int .i64 a0_0] ?_; (with_reducible refine (alz.calls a0_0 t120 t121 t122 t123 t124 t125 _ A2.out).mono ?_); rintro e w6 ⟨rfl, hb⟩; refine ⟨_, rfl, ?_⟩; have n_ := And.intro (bb_ BK119 hb) (hs_ HB hb); clear BK119 HB; obtain ⟨BK119, HB⟩ := n_; (try clear hb)) | ((with_reducible refine aCz (N := 4) rfl ?_); refine byz ?hg (N := 4) ?hd (cs := #[.string (⟨#[]⟩ : ByteArray), .int .i64 0, .int .u32 0, .int .u8 0, .int .i64 0]) (t := 109) ?hr ?_; (case hd => rfl); (case hg => rfl); (case hr => first | (go_simp; done) | (go_simp; rfl)); intro gb126 hg w7 hbox hb; have n_ := And.intro (bb_ BK119 hb) (And.intro (hs_ HB hb) (And.intro (Aside0.mk (hbox)) (And.intro (ag_ HB gb126) (And.intro (ag_ HB gb126) (And.intro (n1_ BK119 gb126) (n2_ BK119 gb126)))))); clear BK119 HB; obtain ⟨BK119, HB, BK126, GW126, GE126, NB119_126, NB126_119⟩ := n_; clear hb hbox hg; have hnb8 := NB126_119.out; have hnc8 := NB119_126.out; obtain ⟨hcz9_0, hfz9_0, hcz9_1, hfz9_1, hcz9_2, hfz9_2, hcz9_3, hfz9_3, hcz9_4, hfz9_4⟩ := bc5_ BK126.out))
  go_ret2
  exact ⟨er_, bl_⟩
 ·rw [if_neg c3] at H
  have c3b0 : (t123 == 106) = false := beq_eq_false_iff_ne.mpr c3
  have c3b1 : (t123 != 106) = true := bne_iff_ne.mpr c3
  by_cases c10 : t123 = 105
  ·rw [if_pos c10] at H
   have c10b0 : (t123 == 105) = true := beq_iff_eq.mpr c10
   have c10b1 : (t123 != 105) = false := bne_eq_false_iff_eq.mpr c10
   clear c10
   simp only [Option.some.injEq, Prod.mk.injEq] at H
   obtain ⟨rfl, rfl⟩ := H
   go_enter Tryz.func89, Tryz.ntmps89
   go_wp2_with (first | ((with_reducible refine aCz (N := 1) rfl ?_); refine bx_ 1 #[.int .i64 a0_0, .int .i64 a0_1, .int .i64 a0_2] 23 ?_; intro gb119 hg w11 hbox hb; have n_ := And.intro (hs_ HB hb) (And.intro (Aside0.mk (hbox)) (And.intro (ag_ HB gb119) (ag_ HB gb119))); clear HB; obtain ⟨HB, BK119, GW119, GE119⟩ := n_; clear hb hbox hg; obtain ⟨hcz12_0, hfz12_0, hcz12_1, hfz12_1, hcz12_2, hfz12_2⟩ := bc3_ BK119.out) | ((with_reducible refine acz (f := 75) rfl ?_); refine gl_ (some 9) Tryz.func75 #[.int .i64 a0_0] ?_; (with_reducible refine (alz.calls a0_0 t120 t121 t122 t123 t124 t125 _ A2.out).mono ?_); rintro e w13 ⟨rfl, hb⟩; refine ⟨_, rfl, ?_⟩; have n_ := And.intro (bb_ BK119 hb) (hs_ HB hb); clear BK119 HB; obtain ⟨BK119, HB⟩ := n_; (try clear hb)) | ((with_reducible refine aCz (N := 4) rfl ?_); refine byz ?hg (N := 4) ?hd (cs := #[.string (⟨#[]⟩ : ByteArray), .int .i64 0, .int .u32 0, .int .u8 0, .int .i64 0]) (t := 109) ?hr ?_; (case hd => rfl); (case hg => rfl); (case hr => first | (go_simp; done) | (go_simp; rfl)); intro gb126 hg w14 hbox hb; have n_ := And.intro (bb_ BK119 hb) (And.intro (hs_ HB hb) (And.intro (Aside0.mk (hbox)) (And.intro (ag_ HB gb126) (And.intro (ag_ HB gb126) (And.intro (n1_ BK119 gb126) (n2_ BK119 gb126)))))); clear BK119 HB; obtain ⟨BK119, HB, BK126, GW126, GE126, NB119_126, NB126_119⟩ := n_; clear hb hbox hg; have hnb15 := NB126_119.out; have hnc15 := NB119_126.out; obtain ⟨hcz16_0, hfz16_0, hcz16_1, hfz16_1, hcz16_2, hfz16_2, hcz16_3, hfz16_3, hcz16_4, hfz16_4⟩ := bc5_ BK126.out))
   go_ret2
   exact ⟨er_, bl_⟩
  ·rw [if_neg c10] at H
   have c10b0 : (t123 == 105) = false := beq_eq_false_iff_ne.mpr c10
   have c10b1 : (t123 != 105) = true := bne_iff_ne.mpr c10
   by_cases c17 : t123 = 98
   ·rw [if_pos c17] at H
    have c17b0 : (t123 == 98) = true := beq_iff_eq.mpr c17
    have c17b1 : (t123 != 98) = false := bne_eq_false_iff_eq.mpr c17
    clear c17
    simp only [Option.some.injEq, Prod.mk.injEq] at H
    obtain ⟨rfl, rfl⟩ := H
    go_enter Tryz.func89, Tryz.ntmps89
    go_wp2_with (first | ((with_reducible refine aCz (N := 1) rfl ?_); refine bx_ 1 #[.int .i64 a0_0, .int .i64 a0_1, .int .i64 a0_2] 23 ?_; intro gb119 hg w18 hbox hb; have n_ := And.intro (hs_ HB hb) (And.intro (Aside0.mk (hbox)) (And.intro (ag_ HB gb119) (ag_ HB gb119))); clear HB; obtain ⟨HB, BK119, GW119, GE119⟩ := n_; clear hb hbox hg; obtain ⟨hcz19_0, hfz19_0, hcz19_1, hfz19_1, hcz19_2, hfz19_2⟩ := bc3_ BK119.out) | ((with_reducible refine acz (f := 75) rfl ?_); refine gl_ (some 9) Tryz.func75 #[.int .i64 a0_0] ?_; (with_reducible refine (alz.calls a0_0 t120 t121 t122 t123 t124 t125 _ A2.out).mono ?_); rintro e w20 ⟨rfl, hb⟩; refine ⟨_, rfl, ?_⟩; have n_ := And.intro (bb_ BK119 hb) (hs_ HB hb); clear BK119 HB; obtain ⟨BK119, HB⟩ := n_; (try clear hb)) | ((with_reducible refine aCz (N := 4) rfl ?_); refine byz ?hg (N := 4) ?hd (cs := #[.string (⟨#[]⟩ : ByteArray), .int .i64 0, .int .u32 0, .int .u8 0, .int .i64 0]) (t := 109) ?hr ?_; (case hd => rfl); (case hg => rfl); (case hr => first | (go_simp; done) | (go_simp; rfl)); intro gb126 hg w21 hbox hb; have n_ := And.intro (bb_ BK119 hb) (And.intro (hs_ HB hb) (And.intro (Aside0.mk (hbox)) (And.intro (ag_ HB gb126) (And.intro (ag_ HB gb126) (And.intro (n1_ BK119 gb126) (n2_ BK119 gb126)))))); clear BK119 HB; obtain ⟨BK119, HB, BK126, GW126, GE126, NB119_126, NB126_119⟩ := n_; clear hb hbox hg; have hnb22 := NB126_119.out; have hnc22 := NB119_126.out; obtain ⟨hcz23_0, hfz23_0, hcz23_1, hfz23_1, hcz23_2, hfz23_2, hcz23_3, hfz23_3, hcz23_4, hfz23_4⟩ := bc5_ BK126.out))
    go_ret2
    exact ⟨er_, bl_⟩
   ·rw [if_neg c17] at H
    have c17b0 : (t123 == 98) = false := beq_eq_false_iff_ne.mpr c17
    have c17b1 : (t123 != 98) = true := bne_iff_ne.mpr c17
    simp only [Option.some.injEq, Prod.mk.injEq] at H
    obtain ⟨rfl, rfl⟩ := H
    go_enter Tryz.func89, Tryz.ntmps89
    go_wp2_with (first | ((with_reducible refine aCz (N := 1) rfl ?_); refine bx_ 1 #[.int .i64 a0_0, .int .i64 a0_1, .int .i64 a0_2] 23 ?_; intro gb119 hg w24 hbox hb; have n_ := And.intro (hs_ HB hb) (And.intro (Aside0.mk (hbox)) (And.intro (ag_ HB gb119) (ag_ HB gb119))); clear HB; obtain ⟨HB, BK119, GW119, GE119⟩ := n_; clear hb hbox hg; obtain ⟨hcz25_0, hfz25_0, hcz25_1, hfz25_1, hcz25_2, hfz25_2⟩ := bc3_ BK119.out) | ((with_reducible refine acz (f := 75) rfl ?_); refine gl_ (some 9) Tryz.func75 #[.int .i64 a0_0] ?_; (with_reducible refine (alz.calls a0_0 t120 t121 t122 t123 t124 t125 _ A2.out).mono ?_); rintro e w26 ⟨rfl, hb⟩; refine ⟨_, rfl, ?_⟩; have n_ := And.intro (bb_ BK119 hb) (hs_ HB hb); clear BK119 HB; obtain ⟨BK119, HB⟩ := n_; (try clear hb)) | ((with_reducible refine aCz (N := 4) rfl ?_); refine byz ?hg (N := 4) ?hd (cs := #[.string (⟨#[]⟩ : ByteArray), .int .i64 0, .int .u32 0, .int .u8 0, .int .i64 0]) (t := 109) ?hr ?_; (case hd => rfl); (case hg => rfl); (case hr => first | (go_simp; done) | (go_simp; rfl)); intro gb126 hg w27 hbox hb; have n_ := And.intro (bb_ BK119 hb) (And.intro (hs_ HB hb) (And.intro (Aside0.mk (hbox)) (And.intro (ag_ HB gb126) (And.intro (ag_ HB gb126) (And.intro (n1_ BK119 gb126) (n2_ BK119 gb126)))))); clear BK119 HB; obtain ⟨BK119, HB, BK126, GW126, GE126, NB119_126, NB126_119⟩ := n_; clear hb hbox hg; have hnb28 := NB126_119.out; have hnc28 := NB119_126.out; obtain ⟨hcz29_0, hfz29_0, hcz29_1, hfz29_1, hcz29_2, hfz29_2, hcz29_3, hfz29_3, hcz29_4, hfz29_4⟩ := bc5_ BK126.out))
    go_ret2
    exact ⟨er_, bl_⟩
def anz.j0 : Nat → Int → Bool → Int → Int → Int → Option (Int × Int)
 | 0, _, _, _, _, _ => none
 | k + 1, x1, x9, x128000, x128001, x128002 => if x9 = true then (some (0, 1)) else (if x1 > 4096 then (some (0, 11)) else ((bpz.f x128000 x128001 x128002).bind fun bt129 => (if (wrap64 (bt129.1 * x128001)) = 0 then (none) else (some (wrap64 (bt129.1 * (mx (wrap64 (Int.tdiv (wrap64 ((wrap64 ((wrap64 (x1 + bt129.2)) + (wrap64 (bt129.1 * x128001)))) - 1)) (wrap64 (bt129.1 * x128001)))) 1)), 0)))))
def anz.f (k : Nat) (a0_0 : Int) (a0_1 : Int) (a0_2 : Int) (a1 : Int) : Option (Int × Int) := (adz.f a0_0 a0_1 a0_2).bind fun t128 => (if t128 = true then (anz.j0 k a1 (decide (a1 < 0)) a0_0 a0_1 a0_2) else (anz.j0 k a1 true a0_0 a0_1 a0_2))
theorem anz.cxz : ∀ k, (∀ y0 y1 y2 y3 y4, LeO (anz.j0 k y0 y1 y2 y3 y4) (anz.j0 (k + 1) y0 y1 y2 y3 y4))
 | 0 => fun _ _ _ _ _ r h => by simp [anz.j0] at h
 | k + 1 => by
  have ih0 := anz.cxz k
  ·intro y0 y1 y2 y3 y4
   unfold anz.j0
   repeat' first
   | (with_reducible exact ih0 _ _ _ _ _)
   | (with_reducible exact LeO.refl _)
   | (with_reducible exact LeO.none _)
   | (with_reducible refine LeO.ite ?_ ?_)
   | (with_reducible refine LeO.bind ?_ (fun _ => ?_))
   | exact ih0 _ _ _ _ _
   | exact LeO.none _
   | refine LeO.ite ?_ ?_
   | refine LeO.bind ?_ (fun _ => ?_)
theorem anz.mono : ∀ a0 a1 a2 a3 k, LeO (anz.f k a0 a1 a2 a3) (anz.f (k + 1) a0 a1 a2 a3) := by
 intro a0 a1 a2 a3 k
 have ih0 := anz.cxz k
 unfold anz.f
 repeat' first
   | (with_reducible exact ih0 _ _ _ _ _)
   | (with_reducible exact LeO.refl _)
   | (with_reducible exact LeO.none _)
   | (with_reducible refine LeO.ite ?_ ?_)
   | (with_reducible refine LeO.bind ?_ (fun _ => ?_))
   | exact ih0 _ _ _ _ _
   | exact LeO.none _
   | refine LeO.ite ?_ ?_
   | refine LeO.bind ?_ (fun _ => ?_)
set_option maxHeartbeats 8000000 in
set_option maxRecDepth 100000 in
theorem anz.calls (k : Nat) (a0_0 : Int) (a0_1 : Int) (a0_2 : Int) (a1 : Int) (r1 : Int) (r2 : Int) (w : World) (h : anz.f k a0_0 a0_1 a0_2 a1 = some (r1, r2)) :
  Calls Tryz.prog 88 #[.agg #[.int .i64 a0_0, .int .i64 a0_1, .int .i64 a0_2], .int .i64 a1] w fun e w' => e = .returned (.tuple #[.int .i64 r1, .int .i64 r2]) ∧ Below w.heap.size w w' := by
 have hu23 := Tryz.underlying23
 have HB := Aside0.mk (Below.refl w.heap.size w)
 have H := h
 clear h
 unfold anz.f at H
 have HC3 := Aside0.mk H
 clear H
 go_enter Tryz.func88, Tryz.ntmps88
 go_upto_region 1 with (first | ((with_reducible refine aCz (N := 2) rfl ?_); refine bx_ 2 #[.int .i64 a0_0, .int .i64 a0_1, .int .i64 a0_2] 23 ?_; intro gb127 hg w4 hbox hb; have n_ := And.intro (hs_ HB hb) (And.intro (Aside0.mk (hbox)) (And.intro (ag_ HB gb127) (ag_ HB gb127))); clear HB; obtain ⟨HB, BK127, GW127, GE127⟩ := n_; clear hb hbox hg))
 (try simp only [Act.put, List.setIfInBounds_toArray, List.set_cons_zero, List.set_cons_succ])
 go_cut [9] (fun v9 wc => ∃ (kq : Nat) (x9_2 : Bool), v9 = .bool x9_2 ∧ Aside0 (anz.j0 kq a1 x9_2 a0_0 a0_1 a0_2 = some (r1, r2)) ∧ Aside0 (kq ≤ k) ∧ Aside0 (wc.heap[gb127]? = some (.cells #[.int .i64 a0_0, .int .i64 a0_1, .int .i64 a0_2] 23 (0, 0))) ∧ Aside0 (Below w.heap.size w wc))
 case first =>
  have H := HC3.out
  clear HC3
  obtain ⟨t128, A5, H⟩ := ob_ H
  (try dsimp only at H)
  by_cases c6 : t128 = true
  ·subst c6
   rw [if_pos rfl] at H
   have H' := Aside0.mk H
   clear H
   obtain ⟨hcz7_0, hfz7_0, hcz7_1, hfz7_1, hcz7_2, hfz7_2⟩ := bc3_ BK127.out
   go_wp2_with (first | ((with_reducible refine acz (f := 41) rfl ?_); refine gl_ (some 11) Tryz.func41 #[.agg #[.int .i64 a0_0, .int .i64 a0_1, .int .i64 a0_2]] ?_; (with_reducible refine (adz.calls a0_0 a0_1 a0_2 true _ A5.out).mono ?_); rintro e w8 ⟨rfl, hb⟩; refine ⟨_, rfl, ?_⟩; have n_ := And.intro (bb_ BK127 hb) (hs_ HB hb); clear BK127 HB; obtain ⟨BK127, HB⟩ := n_; (try clear hb)))
   go_meet
   case rel => exact ⟨_, (decide (a1 < 0)), sd_, H', ⟨by first | omega | exact Nat.le_refl _⟩, ⟨bk_⟩, ⟨bl_⟩⟩
  ·replace c6 := Bool.eq_false_iff.mpr c6
   subst c6
   rw [if_neg (show ¬ (false = true) by decide)] at H
   have H' := Aside0.mk H
   clear H
   obtain ⟨hcz9_0, hfz9_0, hcz9_1, hfz9_1, hcz9_2, hfz9_2⟩ := bc3_ BK127.out
   go_wp2_with (first | ((with_reducible refine acz (f := 41) rfl ?_); refine gl_ (some 11) Tryz.func41 #[.agg #[.int .i64 a0_0, .int .i64 a0_1, .int .i64 a0_2]] ?_; (with_reducible refine (adz.calls a0_0 a0_1 a0_2 false _ A5.out).mono ?_); rintro e w10 ⟨rfl, hb⟩; refine ⟨_, rfl, ?_⟩; have n_ := And.intro (bb_ BK127 hb) (hs_ HB hb); clear BK127 HB; obtain ⟨BK127, HB⟩ := n_; (try clear hb)))
   go_meet
   case rel => exact ⟨_, (true), sd_, H', ⟨by first | omega | exact Nat.le_refl _⟩, ⟨bk_⟩, ⟨bl_⟩⟩
 case rest =>
  clear HC3
  try clear p2
  try clear c4
  try clear c6
  try clear c8
  try clear hcz7_0
  try clear hcz7_1
  try clear hcz7_2
  try clear hcz9_0
  try clear hcz9_1
  try clear hcz9_2
  try clear hfz7_0
  try clear hfz7_1
  try clear hfz7_2
  try clear hfz9_0
  try clear hfz9_1
  try clear hfz9_2
  obtain ⟨kq, x9_2, rfl, HA, HJ2, BK127, HB⟩ := hcut
  rcases kq with _ | kj2
  ·exact absurd HA.out (by simp [anz.j0])
  have H := HA.out
  clear HA
  simp only [anz.j0] at H
  by_cases c11 : x9_2 = true
  ·subst c11
   rw [if_pos rfl] at H
   simp only [Option.some.injEq, Prod.mk.injEq] at H
   obtain ⟨rfl, rfl⟩ := H
   go_wp2
   go_ret2
   exact ⟨er_, bl_⟩
  ·replace c11 := Bool.eq_false_iff.mpr c11
   subst c11
   rw [if_neg (show ¬ (false = true) by decide)] at H
   by_cases c12 : a1 > 4096
   ·rw [if_pos c12] at H
    have c12b0 : decide (4096 < a1) = true := decide_eq_true c12
    clear c12
    simp only [Option.some.injEq, Prod.mk.injEq] at H
    obtain ⟨rfl, rfl⟩ := H
    go_wp2
    go_ret2
    exact ⟨er_, bl_⟩
   ·rw [if_neg c12] at H
    have c12b0 : decide (4096 < a1) = false := decide_eq_false c12
    clear c12
    obtain ⟨⟨t129, t130⟩, A13, H⟩ := ob_ H
    (try dsimp only at H)
    by_cases c14 : (wrap64 (t129 * a0_1)) = 0
    ·rw [if_pos c14] at H
     exact absurd H (by simp)
    ·rw [if_neg c14] at H
     have c14b0 : ((wrap64 (t129 * a0_1)) == 0) = false := beq_eq_false_iff_ne.mpr c14
     have c14b1 : ((wrap64 (t129 * a0_1)) != 0) = true := bne_iff_ne.mpr c14
     obtain ⟨ji15, hji15⟩ : ∃ j_ : Int, (mx (wrap64 (Int.tdiv (wrap64 ((wrap64 ((wrap64 (a1 + t130)) + (wrap64 (t129 * a0_1)))) - 1)) (wrap64 (t129 * a0_1)))) 1) = j_ := ⟨_, rfl⟩
     replace H : (some (wrap64 (t129 * (ji15)), 0)) = some (r1, r2) := by first | (rw [hji15] at H; exact H) | (simp only [hji15] at H ⊢; exact H)
     (try rw [hji15] at A13)
     have hji15_ : (if (wrap64 (Int.tdiv (wrap64 ((wrap64 ((wrap64 (a1 + t130)) + (wrap64 (t129 * a0_1)))) - 1)) (wrap64 (t129 * a0_1)))) < 1 then 1 else (wrap64 (Int.tdiv (wrap64 ((wrap64 ((wrap64 (a1 + t130)) + (wrap64 (t129 * a0_1)))) - 1)) (wrap64 (t129 * a0_1))))) = ji15 := hji15
     simp only [Option.some.injEq, Prod.mk.injEq] at H
     obtain ⟨rfl, rfl⟩ := H
     obtain ⟨hcz16_0, hfz16_0, hcz16_1, hfz16_1, hcz16_2, hfz16_2⟩ := bc3_ BK127.out
     go_wp2_with (first | ((with_reducible refine acz (f := 89) rfl ?_); refine gl_ (some 22) Tryz.func89 #[.agg #[.int .i64 a0_0, .int .i64 a0_1, .int .i64 a0_2]] ?_; (with_reducible refine (bpz.calls a0_0 a0_1 a0_2 t129 t130 _ A13.out).mono ?_); rintro e w17 ⟨rfl, hb⟩; refine ⟨_, rfl, ?_⟩; have n_ := And.intro (bb_ BK127 hb) (hs_ HB hb); clear BK127 HB; obtain ⟨BK127, HB⟩ := n_; (try clear hb); obtain ⟨hcz18_0, hfz18_0, hcz18_1, hfz18_1, hcz18_2, hfz18_2⟩ := bc3_ BK127.out))
     go_ret2
     exact ⟨by first | rfl | (simp [brz, bsz] <;> rfl) | (simp only [← hji15]; first | rfl | (simp [brz, bsz] <;> rfl)) | (simp [*, brz, bsz] <;> rfl), bl_⟩
def bits_Len64.f (a0 : Int) : Option (Int) := if 0 ≤ a0 then (if a0 ≤ 18446744073709551615 then (some (Lib.bitLen a0.toNat : Int)) else (none)) else (none)
theorem bits_Len64.calls (a0 : Int) (r : Int) (w : World) (h : bits_Len64.f a0 = some r) :
  Calls Tryz.prog 162 #[.int .u64 a0] w fun e w' => e = .returned (.int .i64 r) ∧ Drawn0 w w' := by
 unfold bits_Len64.f at h
 by_cases h0 : 0 ≤ a0
 case neg => rw [if_neg h0] at h; cases h
 rw [if_pos h0] at h
 by_cases h1 : a0 ≤ 18446744073709551615
 case neg => rw [if_neg h1] at h; cases h
 rw [if_pos h1] at h
 cases h
 refine (bits_Len64_told a0 w h0 h1).mono ?_
 rintro e w' ⟨rfl, rfl⟩
 exact ⟨rfl, Drawn0.refl _⟩
def a8z.f (a0 : Int) : Option (Int) := (bits_Len64.f a0).bind fun t281 => (some (wrap64 (t281 - 1)))
set_option maxHeartbeats 8000000 in
set_option maxRecDepth 100000 in
theorem a8z.calls (a0 : Int) (r : Int) (w : World) (h : a8z.f a0 = some r) :
  Calls Tryz.prog 124 #[.int .u64 a0] w fun e w' => e = .returned (.int .i64 r) ∧ Drawn0 w w' := by
 have H := h
 clear h
 unfold a8z.f at H
 obtain ⟨t281, A2, H⟩ := ob_ H
 (try dsimp only at H)
 obtain rfl := Option.some.inj H
 go_enter Tryz.func124, Tryz.ntmps124
 go_wp2_with (first | ((with_reducible refine acz (f := 162) rfl ?_); refine gl_ (some 4) Tryz.func162 #[.int .u64 a0] ?_; (with_reducible refine (bits_Len64.calls a0 t281 _ A2.out).mono ?_); rintro e w' ⟨rfl, ⟨nd, rfl⟩⟩; refine ⟨_, rfl, ?_⟩))
 go_ret
 exact ⟨sd_, dn_⟩
def aJz.l0 : Nat → Int → Int → Int → Int → Option (Int)
 | 0, _, _, _, _ => none
 | k + 1, x0, x1, x5, x6 => if x6 ≥ x5 then (if 0 ≤ x6 then (if (Go.bits .and .u64 (shr .u64 x0 x6) 1) = 1 then (if 0 ≤ (wrap64 (x6 - x5)) then (aJz.l0 k (Go.bits .xor .u64 x0 (shl .u64 (IntKind.u64.wrap (x1)) (wrap64 (x6 - x5)))) x1 x5 (wrap64 (x6 - 1))) else (none)) else (aJz.l0 k x0 x1 x5 (wrap64 (x6 - 1)))) else (none)) else (some ((x0) % 4294967296))
def aJz.f (k : Nat) (a0 : Int) (a1 : Int) : Option (Int) := if a1 = 0 then (some 0) else ((a8z.f (IntKind.u64.wrap (a1))).bind fun t282 => ((a8z.f a0).bind fun t283 => (aJz.l0 k a0 a1 t282 t283)))
set_option maxHeartbeats 8000000 in
set_option maxRecDepth 100000 in
theorem aJz.calls (k : Nat) (a0 : Int) (a1 : Int) (r : Int) (w : World) (h : aJz.f k a0 a1 = some r) :
  Calls Tryz.prog 164 #[.int .u64 a0, .int .u32 a1] w fun e w' => e = .returned (.int .u32 r) ∧ Drawn0 w w' := by
 have H := h
 clear h
 unfold aJz.f at H
 by_cases c3 : a1 = 0
 ·rw [if_pos c3] at H
  have c3b0 : (a1 == 0) = true := beq_iff_eq.mpr c3
  have c3b1 : (a1 != 0) = false := bne_eq_false_iff_eq.mpr c3
  clear c3
  obtain rfl := Option.some.inj H
  go_enter Tryz.func164, Tryz.ntmps164
  go_wp2
  go_ret
  exact ⟨sd_, dn_⟩
 ·rw [if_neg c3] at H
  have c3b0 : (a1 == 0) = false := beq_eq_false_iff_ne.mpr c3
  have c3b1 : (a1 != 0) = true := bne_iff_ne.mpr c3
  obtain ⟨t282, A4, H⟩ := ob_ H
  (try dsimp only at H)
  obtain ⟨t283, A5, H⟩ := ob_ H
  (try dsimp only at H)
  have H' := Aside0.mk H
  clear H
  go_enter Tryz.func164, Tryz.ntmps164
  go_wp2_with (first | ((with_reducible refine acz (f := 124) rfl ?_); refine gl_ (some 11) Tryz.func124 #[.int .u64 (IntKind.u64.wrap (a1))] ?_; (with_reducible refine (a8z.calls (IntKind.u64.wrap (a1)) t282 _ A4.out).mono ?_); rintro e w' ⟨rfl, ⟨nd, rfl⟩⟩; refine ⟨_, rfl, ?_⟩) | ((with_reducible refine acz (f := 124) rfl ?_); refine gl_ (some 13) Tryz.func124 #[.int .u64 a0] ?_; (with_reducible refine (a8z.calls a0 t283 _ A5.out).mono ?_); rintro e w' ⟨rfl, ⟨nd, rfl⟩⟩; refine ⟨_, rfl, ?_⟩))
  go_loopg [0, 6] k (fun kq v0 v6 w' => ∃ (x0_1 : Int) (x6_1 : Int), v0 = .int .u64 x0_1 ∧ v6 = .int .i64 x6_1 ∧ Aside0 (aJz.l0 kq x0_1 a1 t282 x6_1 = some r) ∧ Aside0 (kq ≤ k) ∧ Drawn0 w w')
  case atStart => exact ⟨(a0), (t283), sd_, sd_, H', ⟨Nat.le_refl _⟩, dn_⟩
  clear H'
  try clear c1
  try clear p2
  try clear c3
  try clear c3b0
  try clear c3b1
  obtain ⟨x0_1, x6_1, rfl, rfl, HA, HK1, ⟨m1, rfl⟩⟩ := hrel
  rcases gk with _ | k1
  ·exact absurd HA.out (by simp [aJz.l0])
  have H := HA.out
  clear HA
  simp only [aJz.l0] at H
  by_cases c6 : x6_1 ≥ t282
  rotate_left
  ·rw [if_neg c6] at H
   have c6b0 : decide (t282 ≤ x6_1) = false := decide_eq_false c6
   clear c6
   obtain rfl := Option.some.inj H
   go_wp2
   go_ret
   exact ⟨sd_, dn_⟩
  rw [if_pos c6] at H
  have c6b0 : decide (t282 ≤ x6_1) = true := decide_eq_true c6
  clear c6
  by_cases c7 : 0 ≤ x6_1
  rotate_left
  ·rw [if_neg c7] at H
   exact absurd H (by simp)
  rw [if_pos c7] at H
  have c7b0 := eq_true c7
  have c7b1 := decide_eq_true c7
  clear c7
  obtain ⟨ji8, hji8⟩ : ∃ j_ : Int, (shr .u64 x0_1 x6_1) = j_ := ⟨_, rfl⟩
  replace H : (if (Go.bits .and .u64 (ji8) 1) = 1 then (if 0 ≤ (wrap64 (x6_1 - t282)) then (aJz.l0 k1 (Go.bits .xor .u64 x0_1 (shl .u64 (IntKind.u64.wrap (a1)) (wrap64 (x6_1 - t282)))) a1 t282 (wrap64 (x6_1 - 1))) else (none)) else (aJz.l0 k1 x0_1 a1 t282 (wrap64 (x6_1 - 1)))) = some r := by first | (rw [hji8] at H; exact H) | (simp only [hji8] at H ⊢; exact H)
  have hji8_ : (x0_1 / 2 ^ min x6_1.toNat 64) = ji8 := hji8
  have hji8z : x6_1 ≤ 64 → (x0_1 / 2 ^ x6_1.toNat) = ji8 := shr_small hji8
  by_cases c9 : (Go.bits .and .u64 (ji8) 1) = 1
  rotate_left
  ·rw [if_neg c9] at H
   have c9b0 : ((Go.bits .and .u64 (ji8) 1) == 1) = false := beq_eq_false_iff_ne.mpr c9
   have c9b1 : ((Go.bits .and .u64 (ji8) 1) != 1) = true := bne_iff_ne.mpr c9
   have H' := Aside0.mk H
   clear H
   go_wp2
   (first | go_roundg k1 | (subst hji12; go_roundg k1))
   case measure => have := HK1.out; omega
   case rel => exact ⟨(x0_1), (wrap64 (x6_1 - 1)), sd_, sd_, H', ⟨by have := HK1.out; omega⟩, dn_⟩
  rw [if_pos c9] at H
  have c9b0 : ((Go.bits .and .u64 (ji8) 1) == 1) = true := beq_iff_eq.mpr c9
  have c9b1 : ((Go.bits .and .u64 (ji8) 1) != 1) = false := bne_eq_false_iff_eq.mpr c9
  clear c9
  obtain ⟨ji10, hji10⟩ : ∃ j_ : Int, (wrap64 (x6_1 - t282)) = j_ := ⟨_, rfl⟩
  replace H : (if 0 ≤ (ji10) then (aJz.l0 k1 (Go.bits .xor .u64 x0_1 (shl .u64 (IntKind.u64.wrap (a1)) (ji10))) a1 t282 (wrap64 (x6_1 - 1))) else (none)) = some r := by first | (rw [hji10] at H; exact H) | (simp only [hji10] at H ⊢; exact H)
  have hji10w : (IntKind.i64.wrap (x6_1 - t282)) = ji10 := (i64_w _).trans hji10
  by_cases c11 : 0 ≤ (ji10)
  rotate_left
  ·rw [if_neg c11] at H
   exact absurd H (by simp)
  rw [if_pos c11] at H
  have c11b0 := eq_true c11
  have c11b1 := decide_eq_true c11
  clear c11
  obtain ⟨ji12, hji12⟩ : ∃ j_ : Int, (shl .u64 (IntKind.u64.wrap (a1)) (ji10)) = j_ := ⟨_, rfl⟩
  replace H : (aJz.l0 k1 (Go.bits .xor .u64 x0_1 (ji12)) a1 t282 (wrap64 (x6_1 - 1))) = some r := by first | (rw [hji12] at H; exact H) | (simp only [hji12] at H ⊢; exact H)
  have hji12_ : (IntKind.u64.wrap ((IntKind.u64.wrap (a1)) * 2 ^ min (ji10).toNat 64)) = ji12 := hji12
  have hji12z : (ji10) ≤ 64 → (IntKind.u64.wrap ((IntKind.u64.wrap (a1)) * 2 ^ (ji10).toNat)) = ji12 := shl_small hji12
  have H' := Aside0.mk H
  clear H
  go_wp2
  (first | go_roundg k1 | (subst hji12; go_roundg k1))
  case measure => have := HK1.out; omega
  case rel => exact ⟨(Go.bits .xor .u64 x0_1 (ji12)), (wrap64 (x6_1 - 1)), (by first | rfl | (simp; done) | (simp only [← hji12] <;> (first | rfl | simp)) | (simp [*]; done)), sd_, H', ⟨by have := HK1.out; omega⟩, dn_⟩
def bits_Len32.f (a0 : Int) : Option (Int) := if 0 ≤ a0 then (if a0 ≤ 4294967295 then (some (Lib.bitLen a0.toNat : Int)) else (none)) else (none)
theorem bits_Len32.calls (a0 : Int) (r : Int) (w : World) (h : bits_Len32.f a0 = some r) :
  Calls Tryz.prog 191 #[.int .u32 a0] w fun e w' => e = .returned (.int .i64 r) ∧ Drawn0 w w' := by
 unfold bits_Len32.f at h
 by_cases h0 : 0 ≤ a0
 case neg => rw [if_neg h0] at h; cases h
 rw [if_pos h0] at h
 by_cases h1 : a0 ≤ 4294967295
 case neg => rw [if_neg h1] at h; cases h
 rw [if_pos h1] at h
 cases h
 refine (bits_Len32_told a0 w h0 h1).mono ?_
 rintro e w' ⟨rfl, rfl⟩
 exact ⟨rfl, Drawn0.refl _⟩
def a5z.at_ (a b : Int) : Nat → Int
 | 0 => 0
 | i + 1 => if Go.bits .and .u32 (shr .u32 b (i : Int)) 1 = 1 then Go.bits .xor .u64 (a5z.at_ a b i) (shl .u64 (IntKind.u64.wrap a) (i : Int)) else a5z.at_ a b i
def a5z.f (a0 : Int) (a1 : Int) : Option (Int) := (bits_Len32.f a1).bind fun n => if 0 ≤ n then (if n ≤ 32 then (some (a5z.at_ a0 a1 n.toNat)) else (none)) else (none)
set_option maxRecDepth 100000 in
set_option maxHeartbeats 1000000 in
theorem poly_Mul1.calls (b i : Int) (g : Nat) (W : World) (h1 : W.heap[g]? = some (.cells #[.int .u32 b] 77 (0, 0))) (hi : 0 ≤ i) :
  Calls Tryz.prog 190 #[.int .i64 i, .pointer (some ⟨g, 0, none⟩)] W fun e w' => e = .returned (.bool (Go.bits .and .u32 (shr .u32 b i) 1 == 1)) ∧ Drawn0 W w' := by
 have hc1 := (aaz h1 0).trans rfl
 obtain ⟨z, hz⟩ : ∃ z : Int, shr .u32 b i = z := ⟨_, rfl⟩
 have hz_ : (b / 2 ^ min i.toNat 32) = z := hz
 have hzz : i ≤ 32 → (b / 2 ^ i.toNat) = z := shr_small hz
 have hi1 := eq_true hi
 have hi2 : decide (0 ≤ i) = true := decide_eq_true hi
 rw [hz]
 go_enter Tryz.func190, Tryz.ntmps190
 go_wp2
 go_ret
 exact ⟨rfl, Drawn0.refl _⟩
set_option maxRecDepth 100000 in
set_option maxHeartbeats 1000000 in
theorem a5z.calls (a0 : Int) (a1 : Int) (r : Int) (w : World) (h : a5z.f a0 a1 = some r) :
  Calls Tryz.prog 177 #[.int .u32 a0, .int .u32 a1] w fun e w' => e = .returned (.int .u64 r) ∧ Below w.heap.size w w' := by
 unfold a5z.f at h
 cases hn : bits_Len32.f a1 with
 | none => rw [hn] at h; cases h
 | some n =>
  rw [hn] at h
  simp only [Option.bind_some] at h
  by_cases h0 : 0 ≤ n
  case neg => rw [if_neg h0] at h; cases h
  rw [if_pos h0] at h
  by_cases h32 : n ≤ 32
  case neg => rw [if_neg h32] at h; cases h
  rw [if_pos h32] at h
  cases h
  have HN := Aside0.mk hn
  clear hn
  go_enter Tryz.func177, Tryz.ntmps177
  go_wp2_with (first | (go_at_call 191; refine (bits_Len32.calls a1 n _ HN.out).mono ?_; rintro e w9 ⟨rfl, m9, rfl⟩))
  go_loopw [5, 11] (fun p i wr => ∃ k : Nat, (k : Int) ≤ n ∧ p = .int .u64 (a5z.at_ a0 a1 k) ∧ i = .int .i64 k ∧ Aside0 (Below w.heap.size w wr) ∧ Aside0 (wr.heap[w.heap.size]? = some (.cells #[.int .u32 a1] 77 (0, 0))))
   (fun _ i _ => 40 - (intOf i).toNat)
  case atStart => exact ⟨0, h0, rfl, rfl, ⟨by repeat (first | exact Below.refl _ _ | apply amz | apply abz)⟩, ⟨by simpa using heap_alloc_new w _⟩⟩
  obtain ⟨k, hk, rfl, rfl, HB, BK⟩ := hrel
  by_cases hlt : (k : Int) < n
  ·obtain ⟨z, hz⟩ : ∃ z : Int, shl .u64 (IntKind.u64.wrap a0) (k : Int) = z := ⟨_, rfl⟩
   have hz_ : (IntKind.u64.wrap (IntKind.u64.wrap a0 * 2 ^ min (k : Int).toNat 64)) = z := hz
   have hzz : (k : Int) ≤ 64 → (IntKind.u64.wrap (IntKind.u64.wrap a0 * 2 ^ (k : Int).toNat)) = z := shl_small hz
   have hs : a5z.at_ a0 a1 (k + 1) = if (Go.bits .and .u32 (shr .u32 a1 (k : Int)) 1 == 1) = true then Go.bits .xor .u64 (a5z.at_ a0 a1 k) z else a5z.at_ a0 a1 k := by
    simp only [a5z.at_, beq_iff_eq, hz]
   generalize hq : (Go.bits .and .u32 (shr .u32 a1 (k : Int)) 1 == 1) = q at hs
   have HQ := Aside0.mk hq
   have HS := Aside0.mk hs
   clear hq hs
   cases q with
   | true =>
    go_wp2_with (first | (go_at_call 190; refine (poly_Mul1.calls a1 (k : Int) w.heap.size _ BK.out (by omega)).mono ?_; rintro e w9 ⟨rfl, m9, rfl⟩; rw [HQ.out]))
    go_roundw
    case rel => exact ⟨k + 1, by omega, by rw [HS.out, if_pos (by trivial), ← hzz (by omega)]; simp, by go_num, ⟨by repeat (first | exact HB.out | apply amz)⟩, ⟨BK.out⟩⟩
    case measure => simp [intOf]; omega
   | false =>
    go_wp2_with (first | (go_at_call 190; refine (poly_Mul1.calls a1 (k : Int) w.heap.size _ BK.out (by omega)).mono ?_; rintro e w9 ⟨rfl, m9, rfl⟩; rw [HQ.out]))
    go_roundw
    case rel => exact ⟨k + 1, by omega, by rw [HS.out]; rfl, by go_num, ⟨by repeat (first | exact HB.out | apply amz)⟩, ⟨BK.out⟩⟩
    case measure => simp [intOf]; omega
  ·have : n = (k : Int) := by omega
   subst this
   go_wp2
   go_ret
   exact ⟨by simp, HB.out⟩
end Go.Proofs.YtpdakdcmahlghaaGreat.XCo
end
