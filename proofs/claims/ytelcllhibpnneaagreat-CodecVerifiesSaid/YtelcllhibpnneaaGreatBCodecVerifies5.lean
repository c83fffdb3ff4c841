-- Joined by this work's own program (wip/tools/bundle.py) out of its texts: what this claim uses of them. Not trusted: Lean checks it.
import Derived.Test.YtelcllhibpnneaaGreatProg
import Derived.Below
import Derived.Deep.Draws
import Derived.Deep.AppendLies
import Derived.Maps.AppendAt
import Derived.OwnWalk
import Derived.Laws.BytesArg
import Derived.Laws.MakeOwn
import Derived.Laws.OwnMore
import Derived.Deep.OwnRows
import Derived.Tactics
import Derived.Lib.ConvBytes
import Derived.Laws.Slices
import Derived.WalkKit
import Derived.KernelRfl
import Derived.RowKit3
import Derived.Deep.LoopGhost
import Derived.Deep.QuietTactic
import Derived.BigQuiet
import Derived.WideLaws
import Derived.Deep.DeepCutAuto
import Derived.Deep.CutBlock
import Derived.Deep.RegionHeld3
import Derived.Laws.Rows
import Derived.Lib.AppendStr
import Derived.ArgAppend
import Derived.Laws.IdiomCopy
import Derived.OrdersHeld
import Derived.Laws.BitsLemmas
import Derived.RowKit
import Derived.Laws.CopyOwn
import Derived.Test.YtelcllhibpnneaaGreatBCodecVerifies1
import Derived.Test.YtelcllhibpnneaaGreatBCodecVerifies4
section
namespace Go.Proofs.YtelcllhibpnneaaGreat.XCo
open Go.RowKit Go.Proofs.YtelcllhibpnneaaGreatW.PrintWords Go.Proofs.YtelcllhibpnneaaGreatW.PrintLast Go.Proofs.YtelcllhibpnneaaGreatW.PrintMore
attribute [local go_sem] aGz aHz aMz aNz aCz aDz aIz aJz
set_option linter.unusedVariables false
set_option linter.unusedSimpArgs false
def errW : Option Int → Value
 | none => .nilIface
 | some c => .iface 0 (.int .i64 c)
theorem bhz : errW none = .nilIface := rfl
theorem biz (c : Int) : errW (some c) = .iface 0 (.int .i64 c) := rfl
theorem info3 : (Tryz.prog.info? 3).map (fun i => (i.zero, i.size, i.bytes)) = some (some (.int .i64 0), 1, 8) := by kernel_rfl
theorem info5 : (Tryz.prog.info? 5).map (fun i => (i.zero, i.size, i.bytes)) = some (some (.int .u8 0), 1, 1) := by kernel_rfl
theorem info34 : (Tryz.prog.info? 34).map (fun i => (i.zero, i.size, i.bytes)) = some (some (.slice none 0 0), 1, 24) := by kernel_rfl
theorem info66 : (Tryz.prog.info? 66).map (fun i => (i.zero, i.size, i.bytes)) = some (some (.slice none 0 0), 1, 24) := by kernel_rfl
def rd_L1 (xs : List (List Int)) (i : Int) : (List Int) := xs.getD i.toNat ([] : List Int)
theorem at_L1 {w : World} {A : Option Addr} {n : Nat} {xs : List (List Int)} (h : Kd.C (Kd.slice 5 (Kd.int .u8)) w A n xs) (i : Int) (h0 : 0 ≤ i) (h1 : i < n) : ∃ ad A0 c0, A = some ad ∧ w.cell? (ad.add i.toNat) = some (.slice A0 (rd_L1 xs i).length c0) ∧ (rd_L1 xs i).length ≤ c0 ∧ (Kd.int .u8).C w A0 (rd_L1 xs i).length (rd_L1 xs i) := by
 obtain ⟨ad, c, e, _, hK, hc0⟩ := Kd.C_get h ([] : List Int) i h0 h1
 have hc : ∀ j u, c[j]? = some u → w.cell? (ad.add (i.toNat * 1 + j)) = some u := hc0
 obtain ⟨A0, c0, rfl, l0, g0⟩ := hK
 exact ⟨ad, A0, c0, e, by have hq := hc 0 _ rfl; rwa [Nat.mul_one, Nat.add_zero] at hq, l0, g0⟩
end Go.Proofs.YtelcllhibpnneaaGreat.XCo
end
section
namespace Go.Proofs.YtelcllhibpnneaaGreat.XCo
open Go.RowKit Go.Proofs.YtelcllhibpnneaaGreatW.PrintWords Go.Proofs.YtelcllhibpnneaaGreatW.PrintLast Go.Proofs.YtelcllhibpnneaaGreatW.PrintMore
attribute [local go_sem] aGz aHz aMz aNz aCz aDz aIz aJz
set_option linter.unusedVariables false
set_option linter.unusedSimpArgs false
def bL : Nat → Nat → List Bool
 | 0, _ => []
 | n + 1, m => (m % 2 == 1) :: bL n (m / 2)
def bA (n m : Nat) : Array Bool := (bL n m).toArray
section
variable {P : Program} {md : Region.Mode} {ops : Array Oper} {Q : Exit → Act → World → Prop} {S : World → Prop} {ds : List Nat} {oi : Oper} {v : Value} {fuel n m0 : Nat} {a a' : Act} {w : World} {T : Bool × List (List Nat × List Nat)} {B : List Nat}
theorem pu_ (i d m : Nat)
  (h : wpAnyLast P md ops Q S ds fuel (bA n m) a' w)
  (hi : ops[i]? = some oi := by exact rfl) (hN : oi.dst = some d := by exact rfl)
  (hc : anyB md ops (bA n m0) (bA n m) i = true := by kernel_rfl)
  (hQ : ∀ c v a w, Q (.panic c) (Act.put a (some d) v) w → Q (.panic c) a w := by exact fun _ _ _ _ h => h)
  (hy : Yields P ops oi v a := by (refine Or.inl ⟨by rfl, ?_⟩; intro w'; go_simp; with_reducible rfl))
  (ha : a.put (some d) v = a' := by (simp only [Act.put, List.setIfInBounds_toArray, List.set_cons_zero, List.set_cons_succ, i64_w, i32_w]; rfl)) :
  wpAnyLast P md ops Q S ds (fuel + 1) (bA n m0) a w := pure_ _ hi hN hc (fun c a w => by rw [hN]; exact hQ c _ a w) hy ha h
theorem pv_ (i d m : Nat) (HT : Aside0 (rtab md ops = T))
  (h : wpAnyLast P md ops Q S ds fuel (bA n m) a' w)
  (hi : ops[i]? = some oi := by exact rfl) (hN : oi.dst = some d := by exact rfl)
  (hc : anyT T (bA n m0).toList (bA n m).toList i = true := by kernel_rfl)
  (hQ : ∀ c v a w, Q (.panic c) (Act.put a (some d) v) w → Q (.panic c) a w := by exact fun _ _ _ _ h => h)
  (hy : Yields P ops oi v a := by (refine Or.inl ⟨by rfl, ?_⟩; intro w'; go_simp; with_reducible rfl))
  (ha : a.put (some d) v = a' := by (simp only [Act.put, List.setIfInBounds_toArray, List.set_cons_zero, List.set_cons_succ, i64_w, i32_w]; rfl)) :
  wpAnyLast P md ops Q S ds (fuel + 1) (bA n m0) a w := pure_ _ hi hN (any_of HT.out hc) (fun c a w => by rw [hN]; exact hQ c _ a w) hy ha h
theorem tk_ (i d m : Nat) (hS : S w)
  (h : wpAnyLast P md ops Q S ds fuel (bA n m) a' w)
  (hi : ops[i]? = some oi := by exact rfl) (hN : oi.dst = some d := by exact rfl)
  (hc : takeB md ops ds (bA n m0) (bA n m) i = true := by kernel_rfl)
  (hQ : ∀ c v a w, Q (.panic c) (Act.put a (some d) v) w → Q (.panic c) a w := by exact fun _ _ _ _ h => h)
  (hy : YieldsIf P ops S oi v a := by (refine Or.inl ⟨by rfl, ?_⟩; intro w' hs; (try dsimp only at hs); (repeat (rcases hs with ⟨s0, hs⟩)); go_simp; with_reducible rfl))
  (ha : a.put (some d) v = a' := by (simp only [Act.put, List.setIfInBounds_toArray, List.set_cons_zero, List.set_cons_succ, i64_w, i32_w]; rfl)) :
  wpAnyLast P md ops Q S ds (fuel + 1) (bA n m0) a w := take_ _ hi hN hc (fun c a w => by rw [hN]; exact hQ c _ a w) hy hS ha h
theorem tw_ (i d m : Nat) (HT : Aside0 (rtab md ops = T)) (HW : Aside0 (waitsOk T.2 B = true)) (hS : S w)
  (h : wpAnyLast P md ops Q S ds fuel (bA n m) a' w)
  (hi : ops[i]? = some oi := by exact rfl) (hN : oi.dst = some d := by exact rfl)
  (hc : takeW T B ds (bA n m0).toList (bA n m).toList i = true := by kernel_rfl)
  (hQ : ∀ c v a w, Q (.panic c) (Act.put a (some d) v) w → Q (.panic c) a w := by exact fun _ _ _ _ h => h)
  (hy : YieldsIf P ops S oi v a := by (refine Or.inl ⟨by rfl, ?_⟩; intro w' hs; (try dsimp only at hs); (repeat (rcases hs with ⟨s0, hs⟩)); go_simp; with_reducible rfl))
  (ha : a.put (some d) v = a' := by (simp only [Act.put, List.setIfInBounds_toArray, List.set_cons_zero, List.set_cons_succ, i64_w, i32_w]; rfl)) :
  wpAnyLast P md ops Q S ds (fuel + 1) (bA n m0) a w := take_ _ hi hN (take_ofW HT.out HW.out hc) (fun c a w => by rw [hN]; exact hQ c _ a w) hy hS ha h
end
theorem kr_ {p : Prop} (h : p := by kernel_rfl) : p := h
theorem bl_ {p : Prop} (h : p := by repeat (first | (with_reducible first | exact HB.out | apply acz | apply akz | apply bOz | refine bEz ?_ (Aside0.out (by assumption))) | exact HB.out)) : p := h
theorem bk_ {p : Prop} (h : p := by (with_reducible repeat (first | refine aez ?_ _ | refine afz ?_ | refine adz ?_ _)); exact Aside0.out (by assumption)) : p := h
theorem ar_ {p : Prop} (h : p := by (try simp only [List.map_toArray, List.map_cons, List.map_nil]); first | done | rfl | (simp only [List.length_drop, List.length_take]; rfl)) : p := h
theorem am_ {p : Prop} (h : p := by simp only [List.map_toArray, List.map_cons, List.map_nil]; rfl) : p := h
theorem as_ {p : Prop} (h : p := by first | (with_reducible assumption) | assumption) : p := h
theorem er_ {p : Prop} (h : p := by first | rfl | (simp [bhz, biz] <;> rfl) | (simp [*, bhz, biz] <;> rfl)) : p := h
theorem sd_ {p : Prop} (h : p := by first | rfl | (simp; done) | (simp [*]; done)) : p := h
theorem dn_ {p : Prop} (h : p := by repeat (first | exact Drawn0.refl _ | apply Drawn0.step)) : p := h
theorem nl_ {p : Prop} (h : p := by first | exact Kd.S_nil _ _ _ _ _ | exact Kd.N_nil _ _ _ _ _ | exact Kd.V_nil _ _ _ _ _ | exact Kd.Q_nil _ _ _ _ _ | exact Kd.R_nil _ _ _ _ _) : p := h
theorem bc3_ {w : World} {g : Nat} {t : TypeId} {x0 x1 x2 : Value} (h : w.heap[g]? = some (.cells #[x0, x1, x2] t (0, 0))) : w.cell? ⟨g, 0, none⟩ = some x0 ∧ w.frozen? ⟨g, 0, none⟩ = false ∧ w.cell? ⟨g, 1, none⟩ = some x1 ∧ w.frozen? ⟨g, 1, none⟩ = false ∧ w.cell? ⟨g, 2, none⟩ = some x2 ∧ w.frozen? ⟨g, 2, none⟩ = false := ⟨(aaz h 0).trans rfl, aFz h 0, (aaz h 1).trans rfl, aFz h 1, (aaz h 2).trans rfl, aFz h 2⟩
theorem bc5_ {w : World} {g : Nat} {t : TypeId} {x0 x1 x2 x3 x4 : Value} (h : w.heap[g]? = some (.cells #[x0, x1, x2, x3, x4] t (0, 0))) : w.cell? ⟨g, 0, none⟩ = some x0 ∧ w.frozen? ⟨g, 0, none⟩ = false ∧ w.cell? ⟨g, 1, none⟩ = some x1 ∧ w.frozen? ⟨g, 1, none⟩ = false ∧ w.cell? ⟨g, 2, none⟩ = some x2 ∧ w.frozen? ⟨g, 2, none⟩ = false ∧ w.cell? ⟨g, 3, none⟩ = some x3 ∧ w.frozen? ⟨g, 3, none⟩ = false ∧ w.cell? ⟨g, 4, none⟩ = some x4 ∧ w.frozen? ⟨g, 4, none⟩ = false := ⟨(aaz h 0).trans rfl, aFz h 0, (aaz h 1).trans rfl, aFz h 1, (aaz h 2).trans rfl, aFz h 2, (aaz h 3).trans rfl, aFz h 3, (aaz h 4).trans rfl, aFz h 4⟩
theorem bb_ {W w w1 : World} {g : Nat} {o : Obj} (h : Aside0 (W.heap[g]? = some o)) (hb : Below w.heap.size w w1)
  (h2 : W.heap[g]? = some o → w.heap[g]? = some o := by intro hx; (with_reducible repeat (first | refine aez ?_ _ | refine afz ?_ | refine adz ?_ _)); exact hx) : Aside0 (w1.heap[g]? = some o) := ⟨ahz (h2 h.out) hb⟩
theorem hs_ {a b w w1 : World} (_HB : Aside0 (Below a.heap.size a b)) (hb : Below w.heap.size w w1)
  (h : Below a.heap.size a w := by repeat (first | (with_reducible first | exact HB.out | apply acz | apply akz | apply bOz | refine bEz ?_ (Aside0.out (by assumption))) | exact HB.out)) : Aside0 (Below a.heap.size a w1) := ⟨cgz h hb⟩
theorem ag_ {n : Nat} {a b : World} (_HB : Aside0 (Below n a b)) (g : Nat) (h : n ≤ g := by rw [hg]; exact (aQz bl_)) : Aside0 (n ≤ g) := ⟨h⟩
theorem n1_ {W : World} {g : Nat} {o : Obj} (_h : Aside0 (W.heap[g]? = some o)) (g' : Nat) (h : g ≠ g' := by rw [hg]; exact Nat.ne_of_lt (awz bk_)) : Aside0 (g ≠ g') := ⟨h⟩
theorem n2_ {W : World} {g : Nat} {o : Obj} (_h : Aside0 (W.heap[g]? = some o)) (g' : Nat) (h : g' ≠ g := by rw [hg]; exact Nat.ne_of_gt (awz bk_)) : Aside0 (g' ≠ g) := ⟨h⟩
theorem ob_ {α β : Type} {o : Option α} {f : α → Option β} {b : β} (h : o.bind f = some b) : ∃ a, Aside0 (o = some a) ∧ f a = some b := by
 obtain ⟨a, h1, h2⟩ := Option.bind_eq_some_iff.1 h
 exact ⟨a, ⟨h1⟩, h2⟩
theorem xd_ {p q : Prop} (x : q) (h : q → p := by intro hx; (with_reducible repeat (first | apply Kd.N_alloc | apply Kd.N_drewN | apply Kd.b8z | apply Kd.aVz | apply Kd.aWz | apply Kd.aPz | apply Kd.crz | apply Kd.bQz | apply Kd.b1z | apply Kd.cVz | apply Kd.S_drewN | apply Kd.S_drew | refine Kd.b5z ?_ _ | refine Kd.aYz ?_ _ | refine Kd.bWz ?_)); exact hx) : p := h x
section
variable {P : Program} {ops_ : Array Oper} {Q : Exit → Act → World → Prop} {rest : List Oper} {o : Oper} {a : Act} {W : World}
theorem bx_ (N : Tmp) (cs : Array Value) (t : TypeId)
  (h : ∀ g, g = W.heap.size → ∀ w1, w1.heap[g]? = some (.cells cs t (0, 0)) → Below W.heap.size W w1 → wpList P ops_ Q rest (a.put o.dst (.pointer (some ⟨g, 0, none⟩))) w1)
  (hd : o.dst = some N := by rfl) (hgd : o.guard = none := by rfl)
  (hrun : (execOp a.eval o).run P W = .ok (.value (.pointer (some ⟨W.heap.size, 0, none⟩))) (W.alloc (.cells cs t (0, 0))) := by first | (go_simp; done) | (go_simp; rfl)) : wpList P ops_ Q (o :: rest) a W :=
 a3z hgd hd hrun h
theorem gl_ (N : Option Tmp) {f : FuncId} {fn : Func} (hf : P.funcs[f]? = some fn) (args : Array Value) {xs : Array Operand} {ts : Array TypeId}
  (h : Calls P f args W fun e w' => ∃ v, e = .returned v ∧ wpList P ops_ Q rest (a.put N v) w')
  (hd : o.dst = N := by rfl) (hg : o.guard = none := by rfl) (hname : (fn.name == "runtime.NumGoroutine") = false := by kernel_rfl) (hb : fn.body.isSome = true := by rfl)
  (hop : o.op = .call { callee := .value (.func f), args := xs, argTypes := ts } := by rfl)
  (hargs : xs.map a.eval = args := by (try simp only [List.map_toArray, List.map_cons, List.map_nil]); first | done | rfl | (simp only [List.length_drop, List.length_take]; rfl)) : wpList P ops_ Q (o :: rest) a W :=
 goesL_ N hd hg hf hname hb args hop hargs h
end
section
variable {α : Type} {d : Kd α} {e base : Nat} {ok ok' : Nat → Prop} {w w1 : World} {v : Value} {xs : List α}
theorem nm_ (h : Aside0 (d.N e w base ok v xs)) (hok : ∀ k, ok k → ok' k := by intro _ hk; first | exact hk | exact trivial | ((try simp only [and_assoc] at hk); (repeat (have h_ := hk.1; replace hk := hk.2)); ((repeat' apply And.intro) <;> first | assumption | exact trivial | (simp [Value.ownBlock]; done)))) (hw : d.N e w base ok' v xs → d.N e w1 base ok' v xs := by intro hx; (with_reducible repeat (first | apply Kd.N_alloc | apply Kd.N_drewN | apply Kd.b8z)); exact hx) : d.N e w1 base ok' v xs := hw (Kd.bSz h.out hok)
theorem vm_ (h : Aside0 (d.V e w base ok v xs)) (hok : ∀ k, ok k → ok' k := by intro _ hk; first | exact hk | exact trivial | ((try simp only [and_assoc] at hk); (repeat (have h_ := hk.1; replace hk := hk.2)); ((repeat' apply And.intro) <;> first | assumption | exact trivial | (simp [Value.ownBlock]; done)))) (hw : d.V e w base ok' v xs → d.V e w1 base ok' v xs := by intro hx; (with_reducible repeat (first | apply Kd.aVz | apply Kd.aWz | apply Kd.aPz)); exact hx) : d.V e w1 base ok' v xs := hw (Kd.bwz h.out hok)
theorem rm_ (h : Aside0 (d.R e w base ok v xs)) (hok : ∀ k, ok k → ok' k := by intro _ hk; first | exact hk | exact trivial | ((try simp only [and_assoc] at hk); (repeat (have h_ := hk.1; replace hk := hk.2)); ((repeat' apply And.intro) <;> first | assumption | exact trivial | (simp [Value.ownBlock]; done)))) (hw : d.R e w base ok' v xs → d.R e w1 base ok' v xs := by intro hx; (with_reducible repeat (first | apply Kd.crz | apply Kd.bQz | apply Kd.b1z)); exact hx) : d.R e w1 base ok' v xs := hw (Kd.aSz h.out hok)
theorem sm_ (h : Aside0 (d.S e w base ok v xs)) (hok : ∀ k, ok k → ok' k := by intro _ hk; first | exact hk | exact trivial | ((try simp only [and_assoc] at hk); (repeat (have h_ := hk.1; replace hk := hk.2)); ((repeat' apply And.intro) <;> first | assumption | exact trivial | (simp [Value.ownBlock]; done)))) (hw : d.S e w base ok' v xs → d.S e w1 base ok' v xs := by intro hx; (with_reducible repeat (first | apply Kd.cVz | apply Kd.S_drewN | apply Kd.S_drew)); exact hx) : d.S e w1 base ok' v xs := hw (Kd.bMz h.out hok)
end
end Go.Proofs.YtelcllhibpnneaaGreat.XCo
end
section
namespace Go.Proofs.YtelcllhibpnneaaGreat.XCo
open Go.RowKit Go.Proofs.YtelcllhibpnneaaGreatW.PrintWords Go.Proofs.YtelcllhibpnneaaGreatW.PrintLast Go.Proofs.YtelcllhibpnneaaGreatW.PrintMore
attribute [local go_sem] aGz aHz aMz aNz aCz aDz aIz aJz
set_option linter.unusedVariables false
set_option linter.unusedSimpArgs false
def asz.f (a0 : Int) : Option (ByteArray × Int × Int × Int × Int × Bool) :=
 if a0 = 1 then some (⟨#[106, 118]⟩, 8, 285, 106, 4, true) else if a0 = 2 then some (⟨#[106, 99]⟩, 16, 69643, 106, 4, true)
 else if a0 = 3 then some (⟨#[105, 114]⟩, 8, 285, 105, 3, true) else if a0 = 4 then some (⟨#[105, 99]⟩, 8, 285, 105, 4, true)
 else if a0 = 5 then some (⟨#[98, 98]⟩, 8, 285, 98, 4, true) else if a0 = 6 then some (⟨#[107, 112]⟩, 8, 285, 112, 4, true)
 else some (⟨#[]⟩, 0, 0, 0, 0, false)
theorem asz.low (a0 : Int) (w : World) (h : a0 < 1) :
  Calls Tryz.prog 73 #[.int .i64 a0] w fun e w' => e = .returned (.tuple #[.agg #[.string ⟨#[]⟩, .int .i64 0, .int .u32 0, .int .u8 0, .int .i64 0], .bool false]) ∧ Below w.heap.size w w' := by
 go_enter Tryz.func73, Tryz.ntmps73
 go_wp2
 exact bodyPost_ret (v := .tuple #[.agg #[.string ⟨#[]⟩, .int .i64 0, .int .u32 0, .int .u8 0, .int .i64 0], .bool false]) (by simp [results, Tryz.results73, go_sem]) rfl ⟨rfl, (Below.refl _ _).alloc (Nat.le_refl _) _⟩
theorem asz.high (a0 : Int) (w : World) (h : 6 < a0) :
  Calls Tryz.prog 73 #[.int .i64 a0] w fun e w' => e = .returned (.tuple #[.agg #[.string ⟨#[]⟩, .int .i64 0, .int .u32 0, .int .u8 0, .int .i64 0], .bool false]) ∧ Below w.heap.size w w' := by
 have h1 : ¬ a0 < 1 := by omega
 go_enter Tryz.func73, Tryz.ntmps73
 go_wp2
 exact bodyPost_ret (v := .tuple #[.agg #[.string ⟨#[]⟩, .int .i64 0, .int .u32 0, .int .u8 0, .int .i64 0], .bool false]) (by simp [results, Tryz.results73, go_sem]) rfl ⟨rfl, (Below.refl _ _).alloc (Nat.le_refl _) _⟩
def aXz.v : Value := .agg #[.string ⟨#[106, 118]⟩, .int .i64 8, .int .u32 285, .int .u8 106, .int .i64 4, .string ⟨#[106, 99]⟩, .int .i64 16, .int .u32 69643, .int .u8 106, .int .i64 4, .string ⟨#[105, 114]⟩, .int .i64 8, .int .u32 285, .int .u8 105, .int .i64 3, .string ⟨#[105, 99]⟩, .int .i64 8, .int .u32 285, .int .u8 105, .int .i64 4, .string ⟨#[98, 98]⟩, .int .i64 8, .int .u32 285, .int .u8 98, .int .i64 4, .string ⟨#[107, 112]⟩, .int .i64 8, .int .u32 285, .int .u8 112, .int .i64 4]
theorem aXz.any (w : World) :
  Calls Tryz.prog 114 #[] w fun e w' => e = .returned aXz.v ∧ Below w.heap.size w w' := by
 go_enter Tryz.func114, Tryz.ntmps114
 go_wp2_with ((with_reducible refine blz rfl ?_); refine wpList_store_row rfl 146 _ _ rfl w.heap.size _ rfl rfl 146 _ (heap_alloc_new _ _) kr_ rfl kr_ ?_)
 exact bodyPost_ret (results_cell_row Tryz.results114 _ _ w.heap.size _ _ (0, 0) _ rfl (setRow_heap _ _ _ _ _ _ (heap_alloc_new _ _)) Tryz.underlying146 rfl kr_) rfl ⟨rfl, below_setRow ((Below.refl _ _).alloc (Nat.le_refl _) _) (Nat.le_refl _) _⟩
theorem asz.at1 (w : World) :
  Calls Tryz.prog 73 #[.int .i64 1] w fun e w' => e = .returned (.tuple #[.agg #[.string ⟨#[106, 118]⟩, .int .i64 8, .int .u32 285, .int .u8 106, .int .i64 4], .bool true]) ∧ Below w.heap.size w w' := by
 have hi : ∀ w, (Instr.index 146 aXz.v (.int .i64 0)).run Tryz.prog w = .ok (.agg #[.string ⟨#[106, 118]⟩, .int .i64 8, .int .u32 285, .int .u8 106, .int .i64 4]) w := fun _ => by kernel_rfl
 go_enter Tryz.func73, Tryz.ntmps73
 go_wp2_with fail
 refine (aXz.any _).mono ?_
 rintro e w1 ⟨rfl, hb⟩
 have hh : w1.heap[w.heap.size]? = some (.cells #[.string ⟨#[]⟩, .int .i64 0, .int .u32 0, .int .u8 0, .int .i64 0] 103 (0, 0)) := (hb.block _ (by simp)).trans (heap_alloc_new _ _)
 go_wp2_with ((with_reducible refine blz rfl ?_); (refine wpList_store_row rfl 103 _ _ rfl w.heap.size _ rfl rfl 103 _ hh kr_ rfl kr_ ?_))
 refine bodyPost_ret (v := .tuple #[.agg #[.string ⟨#[106, 118]⟩, .int .i64 8, .int .u32 285, .int .u8 106, .int .i64 4], .bool true]) ?_ rfl ⟨rfl, below_setRow (((Below.refl _ _).alloc (Nat.le_refl _) _).trans (hb.mono (by simp))) (Nat.le_refl _) _⟩
 rw [results_cell_tmp Tryz.results73]
 simp only [Array.getD_eq_getD_getElem?, List.getElem?_toArray, List.getElem?_cons_succ, List.getElem?_cons_zero, Option.getD_some, asAddr, Sem.run_pure, Result.andThen_ok]
 rw [run_loadVar_row _ w.heap.size 103 103 _ (0, 0) _ (setRow_heap _ _ _ _ _ _ hh) Tryz.underlying103 rfl kr_]
 rfl
theorem asz.at2 (w : World) :
  Calls Tryz.prog 73 #[.int .i64 2] w fun e w' => e = .returned (.tuple #[.agg #[.string ⟨#[106, 99]⟩, .int .i64 16, .int .u32 69643, .int .u8 106, .int .i64 4], .bool true]) ∧ Below w.heap.size w w' := by
 have hi : ∀ w, (Instr.index 146 aXz.v (.int .i64 1)).run Tryz.prog w = .ok (.agg #[.string ⟨#[106, 99]⟩, .int .i64 16, .int .u32 69643, .int .u8 106, .int .i64 4]) w := fun _ => by kernel_rfl
 go_enter Tryz.func73, Tryz.ntmps73
 go_wp2_with fail
 refine (aXz.any _).mono ?_
 rintro e w1 ⟨rfl, hb⟩
 have hh : w1.heap[w.heap.size]? = some (.cells #[.string ⟨#[]⟩, .int .i64 0, .int .u32 0, .int .u8 0, .int .i64 0] 103 (0, 0)) := (hb.block _ (by simp)).trans (heap_alloc_new _ _)
 go_wp2_with ((with_reducible refine blz rfl ?_); (refine wpList_store_row rfl 103 _ _ rfl w.heap.size _ rfl rfl 103 _ hh kr_ rfl kr_ ?_))
 refine bodyPost_ret (v := .tuple #[.agg #[.string ⟨#[106, 99]⟩, .int .i64 16, .int .u32 69643, .int .u8 106, .int .i64 4], .bool true]) ?_ rfl ⟨rfl, below_setRow (((Below.refl _ _).alloc (Nat.le_refl _) _).trans (hb.mono (by simp))) (Nat.le_refl _) _⟩
 rw [results_cell_tmp Tryz.results73]
 simp only [Array.getD_eq_getD_getElem?, List.getElem?_toArray, List.getElem?_cons_succ, List.getElem?_cons_zero, Option.getD_some, asAddr, Sem.run_pure, Result.andThen_ok]
 rw [run_loadVar_row _ w.heap.size 103 103 _ (0, 0) _ (setRow_heap _ _ _ _ _ _ hh) Tryz.underlying103 rfl kr_]
 rfl
theorem asz.at3 (w : World) :
  Calls Tryz.prog 73 #[.int .i64 3] w fun e w' => e = .returned (.tuple #[.agg #[.string ⟨#[105, 114]⟩, .int .i64 8, .int .u32 285, .int .u8 105, .int .i64 3], .bool true]) ∧ Below w.heap.size w w' := by
 have hi : ∀ w, (Instr.index 146 aXz.v (.int .i64 2)).run Tryz.prog w = .ok (.agg #[.string ⟨#[105, 114]⟩, .int .i64 8, .int .u32 285, .int .u8 105, .int .i64 3]) w := fun _ => by kernel_rfl
 go_enter Tryz.func73, Tryz.ntmps73
 go_wp2_with fail
 refine (aXz.any _).mono ?_
 rintro e w1 ⟨rfl, hb⟩
 have hh : w1.heap[w.heap.size]? = some (.cells #[.string ⟨#[]⟩, .int .i64 0, .int .u32 0, .int .u8 0, .int .i64 0] 103 (0, 0)) := (hb.block _ (by simp)).trans (heap_alloc_new _ _)
 go_wp2_with ((with_reducible refine blz rfl ?_); (refine wpList_store_row rfl 103 _ _ rfl w.heap.size _ rfl rfl 103 _ hh kr_ rfl kr_ ?_))
 refine bodyPost_ret (v := .tuple #[.agg #[.string ⟨#[105, 114]⟩, .int .i64 8, .int .u32 285, .int .u8 105, .int .i64 3], .bool true]) ?_ rfl ⟨rfl, below_setRow (((Below.refl _ _).alloc (Nat.le_refl _) _).trans (hb.mono (by simp))) (Nat.le_refl _) _⟩
 rw [results_cell_tmp Tryz.results73]
 simp only [Array.getD_eq_getD_getElem?, List.getElem?_toArray, List.getElem?_cons_succ, List.getElem?_cons_zero, Option.getD_some, asAddr, Sem.run_pure, Result.andThen_ok]
 rw [run_loadVar_row _ w.heap.size 103 103 _ (0, 0) _ (setRow_heap _ _ _ _ _ _ hh) Tryz.underlying103 rfl kr_]
 rfl
theorem asz.at4 (w : World) :
  Calls Tryz.prog 73 #[.int .i64 4] w fun e w' => e = .returned (.tuple #[.agg #[.string ⟨#[105, 99]⟩, .int .i64 8, .int .u32 285, .int .u8 105, .int .i64 4], .bool true]) ∧ Below w.heap.size w w' := by
 have hi : ∀ w, (Instr.index 146 aXz.v (.int .i64 3)).run Tryz.prog w = .ok (.agg #[.string ⟨#[105, 99]⟩, .int .i64 8, .int .u32 285, .int .u8 105, .int .i64 4]) w := fun _ => by kernel_rfl
 go_enter Tryz.func73, Tryz.ntmps73
 go_wp2_with fail
 refine (aXz.any _).mono ?_
 rintro e w1 ⟨rfl, hb⟩
 have hh : w1.heap[w.heap.size]? = some (.cells #[.string ⟨#[]⟩, .int .i64 0, .int .u32 0, .int .u8 0, .int .i64 0] 103 (0, 0)) := (hb.block _ (by simp)).trans (heap_alloc_new _ _)
 go_wp2_with ((with_reducible refine blz rfl ?_); (refine wpList_store_row rfl 103 _ _ rfl w.heap.size _ rfl rfl 103 _ hh kr_ rfl kr_ ?_))
 refine bodyPost_ret (v := .tuple #[.agg #[.string ⟨#[105, 99]⟩, .int .i64 8, .int .u32 285, .int .u8 105, .int .i64 4], .bool true]) ?_ rfl ⟨rfl, below_setRow (((Below.refl _ _).alloc (Nat.le_refl _) _).trans (hb.mono (by simp))) (Nat.le_refl _) _⟩
 rw [results_cell_tmp Tryz.results73]
 simp only [Array.getD_eq_getD_getElem?, List.getElem?_toArray, List.getElem?_cons_succ, List.getElem?_cons_zero, Option.getD_some, asAddr, Sem.run_pure, Result.andThen_ok]
 rw [run_loadVar_row _ w.heap.size 103 103 _ (0, 0) _ (setRow_heap _ _ _ _ _ _ hh) Tryz.underlying103 rfl kr_]
 rfl
theorem asz.at5 (w : World) :
  Calls Tryz.prog 73 #[.int .i64 5] w fun e w' => e = .returned (.tuple #[.agg #[.string ⟨#[98, 98]⟩, .int .i64 8, .int .u32 285, .int .u8 98, .int .i64 4], .bool true]) ∧ Below w.heap.size w w' := by
 have hi : ∀ w, (Instr.index 146 aXz.v (.int .i64 4)).run Tryz.prog w = .ok (.agg #[.string ⟨#[98, 98]⟩, .int .i64 8, .int .u32 285, .int .u8 98, .int .i64 4]) w := fun _ => by kernel_rfl
 go_enter Tryz.func73, Tryz.ntmps73
 go_wp2_with fail
 refine (aXz.any _).mono ?_
 rintro e w1 ⟨rfl, hb⟩
 have hh : w1.heap[w.heap.size]? = some (.cells #[.string ⟨#[]⟩, .int .i64 0, .int .u32 0, .int .u8 0, .int .i64 0] 103 (0, 0)) := (hb.block _ (by simp)).trans (heap_alloc_new _ _)
 go_wp2_with ((with_reducible refine blz rfl ?_); (refine wpList_store_row rfl 103 _ _ rfl w.heap.size _ rfl rfl 103 _ hh kr_ rfl kr_ ?_))
 refine bodyPost_ret (v := .tuple #[.agg #[.string ⟨#[98, 98]⟩, .int .i64 8, .int .u32 285, .int .u8 98, .int .i64 4], .bool true]) ?_ rfl ⟨rfl, below_setRow (((Below.refl _ _).alloc (Nat.le_refl _) _).trans (hb.mono (by simp))) (Nat.le_refl _) _⟩
 rw [results_cell_tmp Tryz.results73]
 simp only [Array.getD_eq_getD_getElem?, List.getElem?_toArray, List.getElem?_cons_succ, List.getElem?_cons_zero, Option.getD_some, asAddr, Sem.run_pure, Result.andThen_ok]
 rw [run_loadVar_row _ w.heap.size 103 103 _ (0, 0) _ (setRow_heap _ _ _ _ _ _ hh) Tryz.underlying103 rfl kr_]
 rfl
theorem asz.at6 (w : World) :
  Calls Tryz.prog 73 #[.int .i64 6] w fun e w' => e = .returned (.tuple #[.agg #[.string ⟨#[107, 112]⟩, .int .i64 8, .int .u32 285, .int .u8 112, .int .i64 4], .bool true]) ∧ Below w.heap.size w w' := by
 have hi : ∀ w, (Instr.index 146 aXz.v (.int .i64 5)).run Tryz.prog w = .ok (.agg #[.string ⟨#[107, 112]⟩, .int .i64 8, .int .u32 285, .int .u8 112, .int .i64 4]) w := fun _ => by kernel_rfl
 go_enter Tryz.func73, Tryz.ntmps73
 go_wp2_with fail
 refine (aXz.any _).mono ?_
 rintro e w1 ⟨rfl, hb⟩
 have hh : w1.heap[w.heap.size]? = some (.cells #[.string ⟨#[]⟩, .int .i64 0, .int .u32 0, .int .u8 0, .int .i64 0] 103 (0, 0)) := (hb.block _ (by simp)).trans (heap_alloc_new _ _)
 go_wp2_with ((with_reducible refine blz rfl ?_); (refine wpList_store_row rfl 103 _ _ rfl w.heap.size _ rfl rfl 103 _ hh kr_ rfl kr_ ?_))
 refine bodyPost_ret (v := .tuple #[.agg #[.string ⟨#[107, 112]⟩, .int .i64 8, .int .u32 285, .int .u8 112, .int .i64 4], .bool true]) ?_ rfl ⟨rfl, below_setRow (((Below.refl _ _).alloc (Nat.le_refl _) _).trans (hb.mono (by simp))) (Nat.le_refl _) _⟩
 rw [results_cell_tmp Tryz.results73]
 simp only [Array.getD_eq_getD_getElem?, List.getElem?_toArray, List.getElem?_cons_succ, List.getElem?_cons_zero, Option.getD_some, asAddr, Sem.run_pure, Result.andThen_ok]
 rw [run_loadVar_row _ w.heap.size 103 103 _ (0, 0) _ (setRow_heap _ _ _ _ _ _ hh) Tryz.underlying103 rfl kr_]
 rfl
theorem asz.calls (a0 : Int) (r1 : ByteArray) (r2 : Int) (r3 : Int) (r4 : Int) (r5 : Int) (r6 : Bool) (w : World) (h : asz.f a0 = some (r1, r2, r3, r4, r5, r6)) :
  Calls Tryz.prog 73 #[.int .i64 a0] w fun e w' => e = .returned (.tuple #[.agg #[.string r1, .int .i64 r2, .int .u32 r3, .int .u8 r4, .int .i64 r5], .bool r6]) ∧ Below w.heap.size w w' := by
 unfold asz.f at h
 by_cases h1 : a0 = 1
 ·subst h1; simp at h; obtain ⟨rfl, rfl, rfl, rfl, rfl, rfl⟩ := h; exact asz.at1 w
 rw [if_neg h1] at h
 by_cases h2 : a0 = 2
 ·subst h2; simp at h; obtain ⟨rfl, rfl, rfl, rfl, rfl, rfl⟩ := h; exact asz.at2 w
 rw [if_neg h2] at h
 by_cases h3 : a0 = 3
 ·subst h3; simp at h; obtain ⟨rfl, rfl, rfl, rfl, rfl, rfl⟩ := h; exact asz.at3 w
 rw [if_neg h3] at h
 by_cases h4 : a0 = 4
 ·subst h4; simp at h; obtain ⟨rfl, rfl, rfl, rfl, rfl, rfl⟩ := h; exact asz.at4 w
 rw [if_neg h4] at h
 by_cases h5 : a0 = 5
 ·subst h5; simp at h; obtain ⟨rfl, rfl, rfl, rfl, rfl, rfl⟩ := h; exact asz.at5 w
 rw [if_neg h5] at h
 by_cases h6 : a0 = 6
 ·subst h6; simp at h; obtain ⟨rfl, rfl, rfl, rfl, rfl, rfl⟩ := h; exact asz.at6 w
 rw [if_neg h6] at h
 simp at h; obtain ⟨rfl, rfl, rfl, rfl, rfl, rfl⟩ := h
 by_cases h0 : a0 < 1
 ·exact asz.low a0 w h0
 ·exact asz.high a0 w (by omega)
def agz.f (a0_0 : Int) (a0_1 : Int) (a0_2 : Int) : Option (Bool) := (asz.f a0_0).bind fun bt102 => (if bt102.2.2.2.2.2 = true then (if a0_1 ≥ 1 then (if a0_1 ≤ 8 then (if a0_2 ≥ 1 then (some (decide (a0_2 ≤ bt102.2.2.2.2.1))) else (some false)) else (some false)) else (some false)) else (some false))
set_option maxHeartbeats 8000000 in
set_option maxRecDepth 100000 in
theorem agz.calls (a0_0 : Int) (a0_1 : Int) (a0_2 : Int) (r : Bool) (w : World) (h : agz.f a0_0 a0_1 a0_2 = some r) :
  Calls Tryz.prog 44 #[.agg #[.int .i64 a0_0, .int .i64 a0_1, .int .i64 a0_2]] w fun e w' => e = .returned (.bool r) ∧ Below w.heap.size w w' := by
 have hu23 := Tryz.underlying23
 have hu103 := Tryz.underlying103
 have HB := Aside0.mk (Below.refl w.heap.size w)
 have H := h
 clear h
 unfold agz.f at H
 obtain ⟨⟨t102, t103, t104, t105, t106, t107⟩, A2, H⟩ := ob_ H
 (try dsimp only at H)
 by_cases c3 : t107 = true
 rotate_left
 ·replace c3 := Bool.eq_false_iff.mpr c3
  subst c3
  rw [if_neg (show ¬ (false = true) by decide)] at H
  obtain rfl := Option.some.inj H
  go_enter Tryz.func44, Tryz.ntmps44
  go_wp2_with (first | ((with_reducible refine ayz (N := 1) rfl ?_); refine bx_ 1 #[.int .i64 a0_0, .int .i64 a0_1, .int .i64 a0_2] 23 ?_; intro gb101 hg w35 hbox hb; have n_ := And.intro (hs_ HB hb) (And.intro (Aside0.mk (hbox)) (And.intro (ag_ HB gb101) (ag_ HB gb101))); clear HB; obtain ⟨HB, BK101, GW101, GE101⟩ := n_; clear hb hbox hg; obtain ⟨hcz36_0, hfz36_0, hcz36_1, hfz36_1, hcz36_2, hfz36_2⟩ := bc3_ BK101.out) | ((with_reducible refine ajz (f := 73) rfl ?_); refine gl_ (some 8) Tryz.func73 #[.int .i64 a0_0] ?_; (with_reducible refine (asz.calls a0_0 t102 t103 t104 t105 t106 false _ A2.out).mono ?_); rintro e w37 ⟨rfl, hb⟩; refine ⟨_, rfl, ?_⟩; have n_ := And.intro (bb_ BK101 hb) (hs_ HB hb); clear BK101 HB; obtain ⟨BK101, HB⟩ := n_; (try clear hb)) | ((with_reducible refine ayz (N := 3) rfl ?_); refine a3z ?hg (N := 3) ?hd (cs := #[.string (⟨#[]⟩ : ByteArray), .int .i64 0, .int .u32 0, .int .u8 0, .int .i64 0]) (t := 103) ?hr ?_; (case hd => rfl); (case hg => rfl); (case hr => first | (go_simp; done) | (go_simp; rfl)); intro gb108 hg w38 hbox hb; have n_ := And.intro (bb_ BK101 hb) (And.intro (hs_ HB hb) (And.intro (Aside0.mk (hbox)) (And.intro (ag_ HB gb108) (And.intro (ag_ HB gb108) (And.intro (n1_ BK101 gb108) (n2_ BK101 gb108)))))); clear BK101 HB; obtain ⟨BK101, HB, BK108, GW108, GE108, NB101_108, NB108_101⟩ := n_; clear hb hbox hg; have hnb39 := NB108_101.out; have hnc39 := NB101_108.out; obtain ⟨hcz40_0, hfz40_0, hcz40_1, hfz40_1, hcz40_2, hfz40_2, hcz40_3, hfz40_3, hcz40_4, hfz40_4⟩ := bc5_ BK108.out))
  go_ret
  exact ⟨er_, bl_⟩
 subst c3
 rw [if_pos rfl] at H
 by_cases c4 : a0_1 ≥ 1
 rotate_left
 ·rw [if_neg c4] at H
  have c4b0 : decide (1 ≤ a0_1) = false := decide_eq_false c4
  clear c4
  obtain rfl := Option.some.inj H
  go_enter Tryz.func44, Tryz.ntmps44
  go_wp2_with (first | ((with_reducible refine ayz (N := 1) rfl ?_); refine bx_ 1 #[.int .i64 a0_0, .int .i64 a0_1, .int .i64 a0_2] 23 ?_; intro gb101 hg w28 hbox hb; have n_ := And.intro (hs_ HB hb) (And.intro (Aside0.mk (hbox)) (And.intro (ag_ HB gb101) (ag_ HB gb101))); clear HB; obtain ⟨HB, BK101, GW101, GE101⟩ := n_; clear hb hbox hg; obtain ⟨hcz29_0, hfz29_0, hcz29_1, hfz29_1, hcz29_2, hfz29_2⟩ := bc3_ BK101.out) | ((with_reducible refine ajz (f := 73) rfl ?_); refine gl_ (some 8) Tryz.func73 #[.int .i64 a0_0] ?_; (with_reducible refine (asz.calls a0_0 t102 t103 t104 t105 t106 true _ A2.out).mono ?_); rintro e w30 ⟨rfl, hb⟩; refine ⟨_, rfl, ?_⟩; have n_ := And.intro (bb_ BK101 hb) (hs_ HB hb); clear BK101 HB; obtain ⟨BK101, HB⟩ := n_; (try clear hb)) | ((with_reducible refine ayz (N := 3) rfl ?_); refine a3z ?hg (N := 3) ?hd (cs := #[.string (⟨#[]⟩ : ByteArray), .int .i64 0, .int .u32 0, .int .u8 0, .int .i64 0]) (t := 103) ?hr ?_; (case hd => rfl); (case hg => rfl); (case hr => first | (go_simp; done) | (go_simp; rfl)); intro gb108 hg w31 hbox hb; have n_ := And.intro (bb_ BK101 hb) (And.intro (hs_ HB hb) (And.intro (Aside0.mk (hbox)) (And.intro (ag_ HB gb108) (And.intro (ag_ HB gb108) (And.intro (n1_ BK101 gb108) (n2_ BK101 gb108)))))); clear BK101 HB; obtain ⟨BK101, HB, BK108, GW108, GE108, NB101_108, NB108_101⟩ := n_; clear hb hbox hg; have hnb32 := NB108_101.out; have hnc32 := NB101_108.out; obtain ⟨hcz33_0, hfz33_0, hcz33_1, hfz33_1, hcz33_2, hfz33_2, hcz33_3, hfz33_3, hcz33_4, hfz33_4⟩ := bc5_ BK108.out; obtain ⟨hcz34_0, hfz34_0, hcz34_1, hfz34_1, hcz34_2, hfz34_2⟩ := bc3_ BK101.out))
  go_ret
  exact ⟨er_, bl_⟩
 rw [if_pos c4] at H
 have c4b0 : decide (1 ≤ a0_1) = true := decide_eq_true c4
 clear c4
 by_cases c5 : a0_1 ≤ 8
 rotate_left
 ·rw [if_neg c5] at H
  have c5b0 := decide_eq_false c5
  clear c5
  obtain rfl := Option.some.inj H
  go_enter Tryz.func44, Tryz.ntmps44
  go_wp2_with (first | ((with_reducible refine ayz (N := 1) rfl ?_); refine bx_ 1 #[.int .i64 a0_0, .int .i64 a0_1, .int .i64 a0_2] 23 ?_; intro gb101 hg w21 hbox hb; have n_ := And.intro (hs_ HB hb) (And.intro (Aside0.mk (hbox)) (And.intro (ag_ HB gb101) (ag_ HB gb101))); clear HB; obtain ⟨HB, BK101, GW101, GE101⟩ := n_; clear hb hbox hg; obtain ⟨hcz22_0, hfz22_0, hcz22_1, hfz22_1, hcz22_2, hfz22_2⟩ := bc3_ BK101.out) | ((with_reducible refine ajz (f := 73) rfl ?_); refine gl_ (some 8) Tryz.func73 #[.int .i64 a0_0] ?_; (with_reducible refine (asz.calls a0_0 t102 t103 t104 t105 t106 true _ A2.out).mono ?_); rintro e w23 ⟨rfl, hb⟩; refine ⟨_, rfl, ?_⟩; have n_ := And.intro (bb_ BK101 hb) (hs_ HB hb); clear BK101 HB; obtain ⟨BK101, HB⟩ := n_; (try clear hb)) | ((with_reducible refine ayz (N := 3) rfl ?_); refine a3z ?hg (N := 3) ?hd (cs := #[.string (⟨#[]⟩ : ByteArray), .int .i64 0, .int .u32 0, .int .u8 0, .int .i64 0]) (t := 103) ?hr ?_; (case hd => rfl); (case hg => rfl); (case hr => first | (go_simp; done) | (go_simp; rfl)); intro gb108 hg w24 hbox hb; have n_ := And.intro (bb_ BK101 hb) (And.intro (hs_ HB hb) (And.intro (Aside0.mk (hbox)) (And.intro (ag_ HB gb108) (And.intro (ag_ HB gb108) (And.intro (n1_ BK101 gb108) (n2_ BK101 gb108)))))); clear BK101 HB; obtain ⟨BK101, HB, BK108, GW108, GE108, NB101_108, NB108_101⟩ := n_; clear hb hbox hg; have hnb25 := NB108_101.out; have hnc25 := NB101_108.out; obtain ⟨hcz26_0, hfz26_0, hcz26_1, hfz26_1, hcz26_2, hfz26_2, hcz26_3, hfz26_3, hcz26_4, hfz26_4⟩ := bc5_ BK108.out; obtain ⟨hcz27_0, hfz27_0, hcz27_1, hfz27_1, hcz27_2, hfz27_2⟩ := bc3_ BK101.out))
  go_ret
  exact ⟨er_, bl_⟩
 rw [if_pos c5] at H
 have c5b0 := decide_eq_true c5
 clear c5
 by_cases c6 : a0_2 ≥ 1
 ·rw [if_pos c6] at H
  have c6b0 : decide (1 ≤ a0_2) = true := decide_eq_true c6
  clear c6
  obtain rfl := Option.some.inj H
  go_enter Tryz.func44, Tryz.ntmps44
  go_wp2_with (first | ((with_reducible refine ayz (N := 1) rfl ?_); refine bx_ 1 #[.int .i64 a0_0, .int .i64 a0_1, .int .i64 a0_2] 23 ?_; intro gb101 hg w7 hbox hb; have n_ := And.intro (hs_ HB hb) (And.intro (Aside0.mk (hbox)) (And.intro (ag_ HB gb101) (ag_ HB gb101))); clear HB; obtain ⟨HB, BK101, GW101, GE101⟩ := n_; clear hb hbox hg; obtain ⟨hcz8_0, hfz8_0, hcz8_1, hfz8_1, hcz8_2, hfz8_2⟩ := bc3_ BK101.out) | ((with_reducible refine ajz (f := 73) rfl ?_); refine gl_ (some 8) Tryz.func73 #[.int .i64 a0_0] ?_; (with_reducible refine (asz.calls a0_0 t102 t103 t104 t105 t106 true _ A2.out).mono ?_); rintro e w9 ⟨rfl, hb⟩; refine ⟨_, rfl, ?_⟩; have n_ := And.intro (bb_ BK101 hb) (hs_ HB hb); clear BK101 HB; obtain ⟨BK101, HB⟩ := n_; (try clear hb)) | ((with_reducible refine ayz (N := 3) rfl ?_); refine a3z ?hg (N := 3) ?hd (cs := #[.string (⟨#[]⟩ : ByteArray), .int .i64 0, .int .u32 0, .int .u8 0, .int .i64 0]) (t := 103) ?hr ?_; (case hd => rfl); (case hg => rfl); (case hr => first | (go_simp; done) | (go_simp; rfl)); intro gb108 hg w10 hbox hb; have n_ := And.intro (bb_ BK101 hb) (And.intro (hs_ HB hb) (And.intro (Aside0.mk (hbox)) (And.intro (ag_ HB gb108) (And.intro (ag_ HB gb108) (And.intro (n1_ BK101 gb108) (n2_ BK101 gb108)))))); clear BK101 HB; obtain ⟨BK101, HB, BK108, GW108, GE108, NB101_108, NB108_101⟩ := n_; clear hb hbox hg; have hnb11 := NB108_101.out; have hnc11 := NB101_108.out; obtain ⟨hcz12_0, hfz12_0, hcz12_1, hfz12_1, hcz12_2, hfz12_2, hcz12_3, hfz12_3, hcz12_4, hfz12_4⟩ := bc5_ BK108.out; obtain ⟨hcz13_0, hfz13_0, hcz13_1, hfz13_1, hcz13_2, hfz13_2⟩ := bc3_ BK101.out))
  go_ret
  exact ⟨er_, bl_⟩
 ·rw [if_neg c6] at H
  have c6b0 : decide (1 ≤ a0_2) = false := decide_eq_false c6
  clear c6
  obtain rfl := Option.some.inj H
  go_enter Tryz.func44, Tryz.ntmps44
  go_wp2_with (first | ((with_reducible refine ayz (N := 1) rfl ?_); refine bx_ 1 #[.int .i64 a0_0, .int .i64 a0_1, .int .i64 a0_2] 23 ?_; intro gb101 hg w14 hbox hb; have n_ := And.intro (hs_ HB hb) (And.intro (Aside0.mk (hbox)) (And.intro (ag_ HB gb101) (ag_ HB gb101))); clear HB; obtain ⟨HB, BK101, GW101, GE101⟩ := n_; clear hb hbox hg; obtain ⟨hcz15_0, hfz15_0, hcz15_1, hfz15_1, hcz15_2, hfz15_2⟩ := bc3_ BK101.out) | ((with_reducible refine ajz (f := 73) rfl ?_); refine gl_ (some 8) Tryz.func73 #[.int .i64 a0_0] ?_; (with_reducible refine (asz.calls a0_0 t102 t103 t104 t105 t106 true _ A2.out).mono ?_); rintro e w16 ⟨rfl, hb⟩; refine ⟨_, rfl, ?_⟩; have n_ := And.intro (bb_ BK101 hb) (hs_ HB hb); clear BK101 HB; obtain ⟨BK101, HB⟩ := n_; (try clear hb)) | ((with_reducible refine ayz (N := 3) rfl ?_); refine a3z ?hg (N := 3) ?hd (cs := #[.string (⟨#[]⟩ : ByteArray), .int .i64 0, .int .u32 0, .int .u8 0, .int .i64 0]) (t := 103) ?hr ?_; (case hd => rfl); (case hg => rfl); (case hr => first | (go_simp; done) | (go_simp; rfl)); intro gb108 hg w17 hbox hb; have n_ := And.intro (bb_ BK101 hb) (And.intro (hs_ HB hb) (And.intro (Aside0.mk (hbox)) (And.intro (ag_ HB gb108) (And.intro (ag_ HB gb108) (And.intro (n1_ BK101 gb108) (n2_ BK101 gb108)))))); clear BK101 HB; obtain ⟨BK101, HB, BK108, GW108, GE108, NB101_108, NB108_101⟩ := n_; clear hb hbox hg; have hnb18 := NB108_101.out; have hnc18 := NB101_108.out; obtain ⟨hcz19_0, hfz19_0, hcz19_1, hfz19_1, hcz19_2, hfz19_2, hcz19_3, hfz19_3, hcz19_4, hfz19_4⟩ := bc5_ BK108.out; obtain ⟨hcz20_0, hfz20_0, hcz20_1, hfz20_1, hcz20_2, hfz20_2⟩ := bc3_ BK101.out))
  go_ret
  exact ⟨er_, bl_⟩
mutual
def aoz.l0 : Nat → List Int → List (List Int) → Int → Int → Option (List Int × Int)
 | 0, _, _, _, _ => none
 | k + 1, x4, x14, x15, x16 => if x16 < x15 then (if 0 ≤ x16 then (if x16 < (x14.length : Int) then (if ((rd_L1 x14 x16).length : Int) = (x4.length : Int) then (aoz.l1 k x4 x14 x15 x16 (rd_L1 x14 x16) ((rd_L1 x14 x16).length : Int) 0) else (some (([] : List Int), 1))) else (none)) else (none)) else (some (x4, 0))
def aoz.l1 : Nat → List Int → List (List Int) → Int → Int → List Int → Int → Int → Option (List Int × Int)
 | 0, _, _, _, _, _, _, _ => none
 | k + 1, x4, x14, x15, x16, x25, x26, x27 => if x27 < x26 then (if 0 ≤ x27 then (if x27 < (x25.length : Int) then (if x27 < (x4.length : Int) then (aoz.l1 k (x4.set (x27 : Int).toNat (Go.bits .xor .u8 (rd x4 x27) (rd x25 x27))) x14 x15 x16 x25 x26 (wrap64 (x27 + 1))) else (none)) else (none)) else (none)) else (aoz.l0 k x4 x14 x15 (wrap64 (x16 + 1)))
end
def aoz.f (k : Nat) (l0 : List (List Int)) : Option (List Int × Int) := if 0 < (l0.length : Int) then (if 0 ≤ ((rd_L1 l0 0).length : Int) then (if (((rd_L1 l0 0).length : Int) : Int).toNat ≤ 281474976710656 then (aoz.l0 k (List.replicate (((rd_L1 l0 0).length : Int) : Int).toNat 0) l0 (l0.length : Int) 0) else (none)) else (none)) else (none)
theorem aoz.cIz : ∀ k, (∀ y0 y1 y2 y3, LeO (aoz.l0 k y0 y1 y2 y3) (aoz.l0 (k + 1) y0 y1 y2 y3)) ∧ (∀ y0 y1 y2 y3 y4 y5 y6, LeO (aoz.l1 k y0 y1 y2 y3 y4 y5 y6) (aoz.l1 (k + 1) y0 y1 y2 y3 y4 y5 y6))
 | 0 => ⟨fun _ _ _ _ r h => by simp [aoz.l0] at h, fun _ _ _ _ _ _ _ r h => by simp [aoz.l1] at h⟩
 | k + 1 => by
  obtain ⟨ih0, ih1⟩ := aoz.cIz k
  refine ⟨?_, ?_⟩
  ·intro y0 y1 y2 y3
   unfold aoz.l0
   repeat' first
   | (with_reducible exact ih0 _ _ _ _)
   | (with_reducible exact ih1 _ _ _ _ _ _ _)
   | (with_reducible exact LeO.refl _)
   | (with_reducible exact LeO.none _)
   | (with_reducible refine LeO.ite ?_ ?_)
   | (with_reducible refine LeO.bind ?_ (fun _ => ?_))
   | exact ih0 _ _ _ _
   | exact ih1 _ _ _ _ _ _ _
   | exact LeO.none _
   | refine LeO.ite ?_ ?_
   | refine LeO.bind ?_ (fun _ => ?_)
  ·intro y0 y1 y2 y3 y4 y5 y6
   unfold aoz.l1
   repeat' first
   | (with_reducible exact ih0 _ _ _ _)
   | (with_reducible exact ih1 _ _ _ _ _ _ _)
   | (with_reducible exact LeO.refl _)
   | (with_reducible exact LeO.none _)
   | (with_reducible refine LeO.ite ?_ ?_)
   | (with_reducible refine LeO.bind ?_ (fun _ => ?_))
   | exact ih0 _ _ _ _
   | exact ih1 _ _ _ _ _ _ _
   | exact LeO.none _
   | refine LeO.ite ?_ ?_
   | refine LeO.bind ?_ (fun _ => ?_)
theorem aoz.mono : ∀ a0 k, LeO (aoz.f k a0) (aoz.f (k + 1) a0) := by
 intro a0 k
 obtain ⟨ih0, ih1⟩ := aoz.cIz k
 unfold aoz.f
 repeat' first
   | (with_reducible exact ih0 _ _ _ _)
   | (with_reducible exact ih1 _ _ _ _ _ _ _)
   | (with_reducible exact LeO.refl _)
   | (with_reducible exact LeO.none _)
   | (with_reducible refine LeO.ite ?_ ?_)
   | (with_reducible refine LeO.bind ?_ (fun _ => ?_))
   | exact ih0 _ _ _ _
   | exact ih1 _ _ _ _ _ _ _
   | exact LeO.none _
   | refine LeO.ite ?_ ?_
   | refine LeO.bind ?_ (fun _ => ?_)
set_option maxHeartbeats 8000000 in
set_option maxRecDepth 100000 in
theorem aoz.calls (k : Nat) (A0 : Option Addr) (c0 : Nat) (l0 : List (List Int)) (r1 : List Int) (r2 : Int) (w : World) (hr0 : Kd.C (Kd.slice 5 (Kd.int .u8)) w A0 l0.length l0) (hc0 : l0.length ≤ c0) (h : aoz.f k l0 = some (r1, r2)) :
  Calls Tryz.prog 75 #[.slice A0 l0.length c0] w fun e w' => ∃ v0_ : Value, e = .returned (.tuple #[v0_, .int .i64 r2]) ∧ Kd.R (Kd.int .u8) 5 w' w.heap.size (fun _ => True) v0_ r1 ∧ Below w.heap.size w w' := by
 have HR0 := Aside0.mk hr0
 have HC0 := Aside0.mk hc0
 clear hr0 hc0
 have HB := Aside0.mk (Below.refl w.heap.size w)
 have H := h
 clear h
 unfold aoz.f at H
 by_cases c2 : 0 < (l0.length : Int)
 rotate_left
 ·rw [if_neg c2] at H
  exact absurd H (by simp)
 rw [if_pos c2] at H
 have c2b0 := decide_eq_true c2
 have c2b1 : decide (0 < l0.length) = true := decide_eq_true (by omega)
 clear c2
 by_cases c3 : 0 ≤ ((rd_L1 l0 0).length : Int)
 rotate_left
 ·rw [if_neg c3] at H
  exact absurd H (by simp)
 rw [if_pos c3] at H
 have c3b0 := eq_true c3
 have c3b1 := decide_eq_true c3
 clear c3
 by_cases c4 : (((rd_L1 l0 0).length : Int) : Int).toNat ≤ 281474976710656
 rotate_left
 ·rw [if_neg c4] at H
  exact absurd H (by simp)
 rw [if_pos c4] at H
 have c4b0 := eq_true c4
 have c4b1 := decide_eq_true c4
 clear c4
 obtain ⟨y110, hy110⟩ : ∃ y_ : List Int, y_ = (List.replicate (((rd_L1 l0 0).length : Int) : Int).toNat 0) := ⟨_, rfl⟩
 first | rw [Option.bind_some, ← hy110] at H | rw [← hy110] at H
 (try dsimp only at H)
 have Ny110 := Aside0.mk hy110
 clear hy110
 have H' := Aside0.mk H
 clear H
 have p109 : 0 ≤ (0 : Int) := (by omega)
 have q109 : 0 < (l0.length : Int) := of_decide_eq_true as_
 obtain ⟨ad109, A109_0, c109_0, e109, hx109_0, hl109_0, hi109_0⟩ := at_L1 HR0.out 0 p109 q109
 cases e109
 have qi109 : (0 < l0.length) = True := eq_true (by omega)
 (try rw [show ((0 : Int)).toNat = 0 from rfl] at hx109_0)
 (try rw [Addr.add_zero'] at hx109_0)
 have HR109_0 := Aside0.mk hi109_0
 have HC109_0 := Aside0.mk hl109_0
 clear hi109_0 hl109_0
 replace p109 := eq_true p109
 replace q109 := eq_true q109
 go_enter Tryz.func75, Tryz.ntmps75
 go_wp2_with (first | ((with_reducible refine ayz (N := 13) rfl ?_); refine Kd.R_make (Kd.int .u8) _ 5 rfl (N := 13) rfl 34 _ _ rfl ((rd_L1 l0 0).length : Int) rfl rfl Tryz.underlying34 (.int .u8 0) 1 info5 rfl (by decide) (by omega) 0 (ok := fun _ => True) (okp := fun _ => True) rfl (fun _ hk => hk) trivial (of_decide_eq_true as_) (Nat.le_trans (Nat.mul_le_mul_right _ (of_decide_eq_true as_ : ((rd_L1 l0 0).length : Int).toNat ≤ 281474976710656)) (by omega)) (Below.refl _ _) (Nat.le_refl _) ?_; intro v111 w5 ho6 hb hg_ hnew_; clear hg_ hnew_; (first | rw [← Ny110.out] at ho6 | (simp only [Int.reduceToNat] at ho6; rw [← Ny110.out] at ho6)); have n_ := And.intro (Aside0.mk (Kd.bkz ho6 (aQz bl_))) (hs_ HB hb); clear HB; obtain ⟨HO112, HB⟩ := n_; clear hb ho6))
 go_loopg [16] k (fun kq v16 w' => ∃ (x4_1 : List Int) (x16_1 : Int), v16 = .int .i64 x16_1 ∧ Aside0 (aoz.l0 kq x4_1 l0 (l0.length : Int) x16_1 = some (r1, r2)) ∧ Aside0 (kq ≤ k) ∧ Aside0 (Kd.R (Kd.int .u8) 5 w' w.heap.size (fun _ => True) v111 x4_1) ∧ Aside0 (Below w.heap.size w w'))
 case atStart => exact ⟨(y110), (0), sd_, H', ⟨Nat.le_refl _⟩, ⟨xd_ HO112.out⟩, ⟨bl_⟩⟩
 clear H'
 clear c2b0 c2b1 c3b0 c3b1 c4b0 c4b1 hx109_0 p109 q109
 obtain ⟨x4_1, x16_1, rfl, HA, HK1, HO_4, HB⟩ := hrel
 rcases gk with _ | k1
 ·exact absurd HA.out (by simp [aoz.l0])
 have H := HA.out
 clear HA
 simp only [aoz.l0] at H
 by_cases c7 : x16_1 < (l0.length : Int)
 rotate_left
 ·rw [if_neg c7] at H
  have c7b0 := decide_eq_false c7
  clear c7
  simp only [Option.some.injEq, Prod.mk.injEq] at H
  obtain ⟨rfl, rfl⟩ := H
  go_wp2
  go_ret2
  exact ⟨_, er_, xd_ HO_4.out, bl_⟩
 rw [if_pos c7] at H
 have c7b0 := decide_eq_true c7
 clear c7
 by_cases c8 : 0 ≤ x16_1
 rotate_left
 ·rw [if_neg c8] at H
  exact absurd H (by simp)
 rw [if_pos c8] at H
 have c8b0 := decide_eq_true c8
 clear c8
 by_cases c9 : x16_1 < (l0.length : Int)
 rotate_left
 ·rw [if_neg c9] at H
  exact absurd H (by simp)
 rw [if_pos c9] at H
 have c9b0 := decide_eq_true c9
 clear c9
 by_cases c10 : ((rd_L1 l0 x16_1).length : Int) = (x4_1.length : Int)
 rotate_left
 ·rw [if_neg c10] at H
  have c10b0 : (((rd_L1 l0 x16_1).length : Int) == (x4_1.length : Int)) = false := beq_eq_false_iff_ne.mpr c10
  have c10b1 : (((rd_L1 l0 x16_1).length : Int) != (x4_1.length : Int)) = true := bne_iff_ne.mpr c10
  have c10b2 : ((rd_L1 l0 x16_1).length == x4_1.length) = false := by first | simpa using c10 | (simp at c10 ⊢; omega)
  simp only [Option.some.injEq, Prod.mk.injEq] at H
  obtain ⟨rfl, rfl⟩ := H
  have p113 : 0 ≤ (x16_1 : Int) := of_decide_eq_true as_
  have q113 : x16_1 < (l0.length : Int) := of_decide_eq_true as_
  obtain ⟨ad113, A113_0, c113_0, e113, hx113_0, hl113_0, hi113_0⟩ := at_L1 HR0.out x16_1 p113 q113
  obtain rfl : ad109 = ad113 := (by injection e113)
  replace hx113_0 := (HB.out.cell (World.block_lt_of_cell? w _ hx113_0)).trans hx113_0
  have HR113_0 := Aside0.mk hi113_0
  have HC113_0 := Aside0.mk hl113_0
  clear hi113_0 hl113_0
  replace p113 := eq_true p113
  replace q113 := eq_true q113
  obtain ⟨Ao19, co19, eo19⟩ := Kd.baz HO_4.out
  subst eo19
  go_wp2
  go_ret2
  exact ⟨_, er_, nl_, bl_⟩
 rw [if_pos c10] at H
 have c10b0 : (((rd_L1 l0 x16_1).length : Int) == (x4_1.length : Int)) = true := beq_iff_eq.mpr c10
 have c10b1 : (((rd_L1 l0 x16_1).length : Int) != (x4_1.length : Int)) = false := bne_eq_false_iff_eq.mpr c10
 have c10b2 : ((rd_L1 l0 x16_1).length == x4_1.length) = true := by first | simpa using c10 | (simp at c10 ⊢; omega)
 clear c10
 have H' := Aside0.mk H
 clear H
 have p113 : 0 ≤ (x16_1 : Int) := of_decide_eq_true as_
 have q113 : x16_1 < (l0.length : Int) := of_decide_eq_true as_
 obtain ⟨ad113, A113_0, c113_0, e113, hx113_0, hl113_0, hi113_0⟩ := at_L1 HR0.out x16_1 p113 q113
 obtain rfl : ad109 = ad113 := (by injection e113)
 replace hx113_0 := (HB.out.cell (World.block_lt_of_cell? w _ hx113_0)).trans hx113_0
 have HR113_0 := Aside0.mk hi113_0
 have HC113_0 := Aside0.mk hl113_0
 clear hi113_0 hl113_0
 replace p113 := eq_true p113
 replace q113 := eq_true q113
 obtain ⟨Ao11, co11, eo11⟩ := Kd.baz HO_4.out
 subst eo11
 go_wp2
 go_loopg [27] k1 (fun kq v27 w' => ∃ (x4_2 : List Int) (x27_2 : Int), v27 = .int .i64 x27_2 ∧ Aside0 (aoz.l1 kq x4_2 l0 (l0.length : Int) x16_1 (rd_L1 l0 x16_1) ((rd_L1 l0 x16_1).length : Int) x27_2 = some (r1, r2)) ∧ Aside0 (kq ≤ k1) ∧ Aside0 (Kd.R (Kd.int .u8) 5 w' w.heap.size (fun _ => True) (.slice Ao11 x4_1.length co11) x4_2) ∧ Aside0 (Below w.heap.size w w'))
 case atStart => exact ⟨(x4_1), (0), sd_, H', ⟨Nat.le_refl _⟩, ⟨xd_ HO_4.out⟩, ⟨bl_⟩⟩
 clear H'
 clear c7b0 c8b0 c9b0 c10b0 c10b1 c10b2 hx113_0 p113 q113
 obtain ⟨x4_2, x27_2, rfl, HA, HK2, HO_4, HB⟩ := hrel
 have hl4_2 := (Kd.aRz HO_4.out).1
 rw [hl4_2] at HO_4
 (try simp only [hl4_2])
 rcases gk with _ | k2
 ·exact absurd HA.out (by simp [aoz.l1])
 have H := HA.out
 clear HA
 simp only [aoz.l1] at H
 by_cases c12 : x27_2 < ((rd_L1 l0 x16_1).length : Int)
 rotate_left
 ·rw [if_neg c12] at H
  have c12b0 := decide_eq_false c12
  clear c12
  have H' := Aside0.mk H
  clear H
  go_wp2
  (try simp only [← hl4_2])
  go_roundg k2
  case measure => have := HK1.out; have := HK2.out; omega
  case rel => exact ⟨(x4_2), (wrap64 (x16_1 + 1)), sd_, H', ⟨by have := HK1.out; have := HK2.out; omega⟩, ⟨by (try simp only [hl4_2]); (with_reducible repeat (first | apply Kd.crz | apply Kd.bQz | apply Kd.b1z)); exact HO_4.out⟩, ⟨bl_⟩⟩
 rw [if_pos c12] at H
 have c12b0 := decide_eq_true c12
 clear c12
 by_cases c13 : 0 ≤ x27_2
 rotate_left
 ·rw [if_neg c13] at H
  exact absurd H (by simp)
 rw [if_pos c13] at H
 have c13b0 := decide_eq_true c13
 clear c13
 by_cases c14 : x27_2 < ((rd_L1 l0 x16_1).length : Int)
 rotate_left
 ·rw [if_neg c14] at H
  exact absurd H (by simp)
 rw [if_pos c14] at H
 have c14b0 := decide_eq_true c14
 clear c14
 by_cases c15 : x27_2 < (x4_2.length : Int)
 rotate_left
 ·rw [if_neg c15] at H
  exact absurd H (by simp)
 rw [if_pos c15] at H
 have c15b0 := decide_eq_true c15
 clear c15
 obtain ⟨y116, hy116⟩ : ∃ y_ : List Int, y_ = (x4_2.set (x27_2 : Int).toNat (Go.bits .xor .u8 (rd x4_2 x27_2) (rd (rd_L1 l0 x16_1) x27_2))) := ⟨_, rfl⟩
 first | rw [Option.bind_some, ← hy116] at H | rw [← hy116] at H
 (try dsimp only at H)
 have Ny116 := Aside0.mk hy116
 clear hy116
 have H' := Aside0.mk H
 clear H
 have p114 : 0 ≤ (x27_2 : Int) := of_decide_eq_true as_
 have q114 : x27_2 < ((rd_L1 l0 x16_1).length : Int) := of_decide_eq_true as_
 obtain ⟨ad114, e114, hx114_0⟩ := Kd.b2z HR113_0.out x27_2 p114 q114
 cases e114
 replace hx114_0 := (HB.out.cell (World.block_lt_of_cell? w _ hx114_0)).trans hx114_0
 replace p114 := eq_true p114
 replace q114 := eq_true q114
 have p115 : 0 ≤ (x27_2 : Int) := of_decide_eq_true as_
 have q115 : x27_2 < (x4_2.length : Int) := of_decide_eq_true as_
 obtain ⟨ad115, e115, hx115_0⟩ := Kd.b2z (Kd.aRz HO_4.out).2.2 x27_2 p115 q115
 cases e115
 replace p115 := eq_true p115
 replace q115 := eq_true q115
 have p16 : 0 ≤ (x27_2 : Int) := of_decide_eq_true as_
 have q16 : (x27_2 : Int) < ((x4_2.length : Int) : Int) := of_decide_eq_true as_
 obtain ⟨go16, co16, eo16, gb16, gl16, cl16, HG16⟩ := Kd.b7z HO_4.out (by omega)
 (first | cases eo16 | (injection eo16 with ea_ en_ ec_; (first | subst ea_ | (injection ea_ with ea_; subst ea_)); subst ec_; clear en_))
 have GB16 := Aside0.mk gb16
 have GG16 := Aside0.mk HG16
 clear gb16 gl16 HG16
 (first | simp only [add_plain] at hx115_0 | skip)
 obtain ⟨hx16_0, hf16_0⟩ := Kd.R_celln 0 HO_4.out (x27_2 : Int) p16 q16
 replace p16 := eq_true p16
 replace q16 := eq_true q16
 have HP17 := Kd.R_putg HO_4.out (x27_2 : Int) (Go.bits .xor .u8 (rd x4_2 x27_2) (rd (rd_L1 l0 x16_1) x27_2))
 go_wp2_with (first | ((with_reducible refine blz (t := 5) (p := 38) rfl ?_); refine czz (t := 5) (p := 38) (v := ?vo_w18) (w1 := (wr.setCell ⟨go16, (x27_2 : Int).toNat, none⟩ (.int .u8 (Go.bits .xor .u8 (rd x4_2 x27_2) (rd (rd_L1 l0 x16_1) x27_2))))) ?hg ?ho ?hn ?hr ?_; (case ho => rfl); (case hg => rfl); (case hn => rfl); (case hr => first | (go_simp; done) | (go_simp; rfl)); intro w18 hw; have hg : wr.grownBy w18 (some go16) := (by rw [hw]; exact HP17.2); have hp_ : Kd.R (Kd.int .u8) 5 w18 w.heap.size (fun _ => True) (.slice (some ⟨go16, 0, none⟩) x4_2.length co11) y116 := (by rw [hw, Ny116.out]; exact HP17.1); clear HP17; have n_ := And.intro (Aside0.mk (hp_)) (Aside0.mk ((by rw [hw]; exact bEz (HB.out) GB16.out : Below w.heap.size w w18))); clear HO_4 HB; obtain ⟨HO_4, HB⟩ := n_; clear hg hw hp_))
 (try simp only [← hl4_2])
 go_roundg k2
 case measure => have := HK1.out; have := HK2.out; omega
 case rel => exact ⟨(y116), (wrap64 (x27_2 + 1)), sd_, H', ⟨by have := HK1.out; have := HK2.out; omega⟩, ⟨by (try simp only [hl4_2]); (with_reducible repeat (first | apply Kd.crz | apply Kd.bQz | apply Kd.b1z)); exact HO_4.out⟩, ⟨bl_⟩⟩
def bits_Len64.f (a0 : Int) : Option (Int) := if 0 ≤ a0 then (if a0 ≤ 18446744073709551615 then (some (Lib.bitLen a0.toNat : Int)) else (none)) else (none)
theorem bits_Len64.calls (a0 : Int) (r : Int) (w : World) (h : bits_Len64.f a0 = some r) :
  Calls Tryz.prog 152 #[.int .u64 a0] w fun e w' => e = .returned (.int .i64 r) ∧ Drawn0 w w' := by
 unfold bits_Len64.f at h
 by_cases h0 : 0 ≤ a0
 case neg => rw [if_neg h0] at h; cases h
 rw [if_pos h0] at h
 by_cases h1 : a0 ≤ 18446744073709551615
 case neg => rw [if_neg h1] at h; cases h
 rw [if_pos h1] at h
 cases h
 refine (bits_Len64_told a0 w h0 h1).mono ?_
 rintro e w' ⟨rfl, rfl⟩
 exact ⟨rfl, Drawn0.refl _⟩
def bbz.f (a0 : Int) : Option (Int) := (bits_Len64.f a0).bind fun t708 => (some (wrap64 (t708 - 1)))
set_option maxHeartbeats 8000000 in
set_option maxRecDepth 100000 in
theorem bbz.calls (a0 : Int) (r : Int) (w : World) (h : bbz.f a0 = some r) :
  Calls Tryz.prog 115 #[.int .u64 a0] w fun e w' => e = .returned (.int .i64 r) ∧ Drawn0 w w' := by
 have H := h
 clear h
 unfold bbz.f at H
 obtain ⟨t708, A2, H⟩ := ob_ H
 (try dsimp only at H)
 obtain rfl := Option.some.inj H
 go_enter Tryz.func115, Tryz.ntmps115
 go_wp2_with (first | ((with_reducible refine ajz (f := 152) rfl ?_); refine gl_ (some 4) Tryz.func152 #[.int .u64 a0] ?_; (with_reducible refine (bits_Len64.calls a0 t708 _ A2.out).mono ?_); rintro e w' ⟨rfl, ⟨nd, rfl⟩⟩; refine ⟨_, rfl, ?_⟩))
 go_ret
 exact ⟨sd_, dn_⟩
def aKz.l0 : Nat → Int → Int → Int → Int → Option (Int)
 | 0, _, _, _, _ => none
 | k + 1, x0, x1, x5, x6 => if x6 ≥ x5 then (if 0 ≤ x6 then (if (Go.bits .and .u64 (shr .u64 x0 x6) 1) = 1 then (if 0 ≤ (wrap64 (x6 - x5)) then (aKz.l0 k (Go.bits .xor .u64 x0 (shl .u64 (IntKind.u64.wrap (x1)) (wrap64 (x6 - x5)))) x1 x5 (wrap64 (x6 - 1))) else (none)) else (aKz.l0 k x0 x1 x5 (wrap64 (x6 - 1)))) else (none)) else (some ((x0) % 4294967296))
def aKz.f (k : Nat) (a0 : Int) (a1 : Int) : Option (Int) := if a1 = 0 then (some 0) else ((bbz.f (IntKind.u64.wrap (a1))).bind fun t709 => ((bbz.f a0).bind fun t710 => (aKz.l0 k a0 a1 t709 t710)))
set_option maxHeartbeats 8000000 in
set_option maxRecDepth 100000 in
theorem aKz.calls (k : Nat) (a0 : Int) (a1 : Int) (r : Int) (w : World) (h : aKz.f k a0 a1 = some r) :
  Calls Tryz.prog 154 #[.int .u64 a0, .int .u32 a1] w fun e w' => e = .returned (.int .u32 r) ∧ Drawn0 w w' := by
 have H := h
 clear h
 unfold aKz.f at H
 by_cases c3 : a1 = 0
 ·rw [if_pos c3] at H
  have c3b0 : (a1 == 0) = true := beq_iff_eq.mpr c3
  have c3b1 : (a1 != 0) = false := bne_eq_false_iff_eq.mpr c3
  clear c3
  obtain rfl := Option.some.inj H
  go_enter Tryz.func154, Tryz.ntmps154
  go_wp2
  go_ret
  exact ⟨sd_, dn_⟩
 ·rw [if_neg c3] at H
  have c3b0 : (a1 == 0) = false := beq_eq_false_iff_ne.mpr c3
  have c3b1 : (a1 != 0) = true := bne_iff_ne.mpr c3
  obtain ⟨t709, A4, H⟩ := ob_ H
  (try dsimp only at H)
  obtain ⟨t710, A5, H⟩ := ob_ H
  (try dsimp only at H)
  have H' := Aside0.mk H
  clear H
  go_enter Tryz.func154, Tryz.ntmps154
  go_wp2_with (first | ((with_reducible refine ajz (f := 115) rfl ?_); refine gl_ (some 11) Tryz.func115 #[.int .u64 (IntKind.u64.wrap (a1))] ?_; (with_reducible refine (bbz.calls (IntKind.u64.wrap (a1)) t709 _ A4.out).mono ?_); rintro e w' ⟨rfl, ⟨nd, rfl⟩⟩; refine ⟨_, rfl, ?_⟩) | ((with_reducible refine ajz (f := 115) rfl ?_); refine gl_ (some 13) Tryz.func115 #[.int .u64 a0] ?_; (with_reducible refine (bbz.calls a0 t710 _ A5.out).mono ?_); rintro e w' ⟨rfl, ⟨nd, rfl⟩⟩; refine ⟨_, rfl, ?_⟩))
  go_loopg [0, 6] k (fun kq v0 v6 w' => ∃ (x0_1 : Int) (x6_1 : Int), v0 = .int .u64 x0_1 ∧ v6 = .int .i64 x6_1 ∧ Aside0 (aKz.l0 kq x0_1 a1 t709 x6_1 = some r) ∧ Aside0 (kq ≤ k) ∧ Drawn0 w w')
  case atStart => exact ⟨(a0), (t710), sd_, sd_, H', ⟨Nat.le_refl _⟩, dn_⟩
  clear H'
  clear c3 c3b0 c3b1
  obtain ⟨x0_1, x6_1, rfl, rfl, HA, HK1, ⟨m1, rfl⟩⟩ := hrel
  rcases gk with _ | k1
  ·exact absurd HA.out (by simp [aKz.l0])
  have H := HA.out
  clear HA
  simp only [aKz.l0] at H
  by_cases c6 : x6_1 ≥ t709
  rotate_left
  ·rw [if_neg c6] at H
   have c6b0 : decide (t709 ≤ x6_1) = false := decide_eq_false c6
   clear c6
   obtain rfl := Option.some.inj H
   go_wp2
   go_ret
   exact ⟨sd_, dn_⟩
  rw [if_pos c6] at H
  have c6b0 : decide (t709 ≤ x6_1) = true := decide_eq_true c6
  clear c6
  by_cases c7 : 0 ≤ x6_1
  rotate_left
  ·rw [if_neg c7] at H
   exact absurd H (by simp)
  rw [if_pos c7] at H
  have c7b0 := eq_true c7
  have c7b1 := decide_eq_true c7
  clear c7
  obtain ⟨ji8, hji8⟩ : ∃ j_ : Int, (shr .u64 x0_1 x6_1) = j_ := ⟨_, rfl⟩
  replace H : (if (Go.bits .and .u64 (ji8) 1) = 1 then (if 0 ≤ (wrap64 (x6_1 - t709)) then (aKz.l0 k1 (Go.bits .xor .u64 x0_1 (shl .u64 (IntKind.u64.wrap (a1)) (wrap64 (x6_1 - t709)))) a1 t709 (wrap64 (x6_1 - 1))) else (none)) else (aKz.l0 k1 x0_1 a1 t709 (wrap64 (x6_1 - 1)))) = some r := by first | (rw [hji8] at H; exact H) | (simp only [hji8] at H ⊢; exact H)
  have hji8_ : (x0_1 / 2 ^ min x6_1.toNat 64) = ji8 := hji8
  have hji8z : x6_1 ≤ 64 → (x0_1 / 2 ^ x6_1.toNat) = ji8 := shr_small hji8
  by_cases c9 : (Go.bits .and .u64 (ji8) 1) = 1
  rotate_left
  ·rw [if_neg c9] at H
   have c9b0 : ((Go.bits .and .u64 (ji8) 1) == 1) = false := beq_eq_false_iff_ne.mpr c9
   have c9b1 : ((Go.bits .and .u64 (ji8) 1) != 1) = true := bne_iff_ne.mpr c9
   have H' := Aside0.mk H
   clear H
   go_wp2
   (first | go_roundg k1 | (subst hji12; go_roundg k1))
   case measure => have := HK1.out; omega
   case rel => exact ⟨(x0_1), (wrap64 (x6_1 - 1)), sd_, sd_, H', ⟨by have := HK1.out; omega⟩, dn_⟩
  rw [if_pos c9] at H
  have c9b0 : ((Go.bits .and .u64 (ji8) 1) == 1) = true := beq_iff_eq.mpr c9
  have c9b1 : ((Go.bits .and .u64 (ji8) 1) != 1) = false := bne_eq_false_iff_eq.mpr c9
  clear c9
  obtain ⟨ji10, hji10⟩ : ∃ j_ : Int, (wrap64 (x6_1 - t709)) = j_ := ⟨_, rfl⟩
  replace H : (if 0 ≤ (ji10) then (aKz.l0 k1 (Go.bits .xor .u64 x0_1 (shl .u64 (IntKind.u64.wrap (a1)) (ji10))) a1 t709 (wrap64 (x6_1 - 1))) else (none)) = some r := by first | (rw [hji10] at H; exact H) | (simp only [hji10] at H ⊢; exact H)
  have hji10w : (IntKind.i64.wrap (x6_1 - t709)) = ji10 := (i64_w _).trans hji10
  by_cases c11 : 0 ≤ (ji10)
  rotate_left
  ·rw [if_neg c11] at H
   exact absurd H (by simp)
  rw [if_pos c11] at H
  have c11b0 := eq_true c11
  have c11b1 := decide_eq_true c11
  clear c11
  obtain ⟨ji12, hji12⟩ : ∃ j_ : Int, (shl .u64 (IntKind.u64.wrap (a1)) (ji10)) = j_ := ⟨_, rfl⟩
  replace H : (aKz.l0 k1 (Go.bits .xor .u64 x0_1 (ji12)) a1 t709 (wrap64 (x6_1 - 1))) = some r := by first | (rw [hji12] at H; exact H) | (simp only [hji12] at H ⊢; exact H)
  have hji12_ : (IntKind.u64.wrap ((IntKind.u64.wrap (a1)) * 2 ^ min (ji10).toNat 64)) = ji12 := hji12
  have hji12z : (ji10) ≤ 64 → (IntKind.u64.wrap ((IntKind.u64.wrap (a1)) * 2 ^ (ji10).toNat)) = ji12 := shl_small hji12
  have H' := Aside0.mk H
  clear H
  go_wp2
  (first | go_roundg k1 | (subst hji12; go_roundg k1))
  case measure => have := HK1.out; omega
  case rel => exact ⟨(Go.bits .xor .u64 x0_1 (ji12)), (wrap64 (x6_1 - 1)), (by first | rfl | (simp; done) | (simp only [← hji12] <;> (first | rfl | simp)) | (simp [*]; done)), sd_, H', ⟨by have := HK1.out; omega⟩, dn_⟩
def bits_Len32.f (a0 : Int) : Option (Int) := if 0 ≤ a0 then (if a0 ≤ 4294967295 then (some (Lib.bitLen a0.toNat : Int)) else (none)) else (none)
theorem bits_Len32.calls (a0 : Int) (r : Int) (w : World) (h : bits_Len32.f a0 = some r) :
  Calls Tryz.prog 180 #[.int .u32 a0] w fun e w' => e = .returned (.int .i64 r) ∧ Drawn0 w w' := by
 unfold bits_Len32.f at h
 by_cases h0 : 0 ≤ a0
 case neg => rw [if_neg h0] at h; cases h
 rw [if_pos h0] at h
 by_cases h1 : a0 ≤ 4294967295
 case neg => rw [if_neg h1] at h; cases h
 rw [if_pos h1] at h
 cases h
 refine (bits_Len32_told a0 w h0 h1).mono ?_
 rintro e w' ⟨rfl, rfl⟩
 exact ⟨rfl, Drawn0.refl _⟩
def a7z.at_ (a b : Int) : Nat → Int
 | 0 => 0
 | i + 1 => if Go.bits .and .u32 (shr .u32 b (i : Int)) 1 = 1 then Go.bits .xor .u64 (a7z.at_ a b i) (shl .u64 (IntKind.u64.wrap a) (i : Int)) else a7z.at_ a b i
def a7z.f (a0 : Int) (a1 : Int) : Option (Int) := (bits_Len32.f a1).bind fun n => if 0 ≤ n then (if n ≤ 32 then (some (a7z.at_ a0 a1 n.toNat)) else (none)) else (none)
set_option maxRecDepth 100000 in
set_option maxHeartbeats 1000000 in
theorem poly_Mul1.calls (b i : Int) (g : Nat) (W : World) (h1 : W.heap[g]? = some (.cells #[.int .u32 b] 70 (0, 0))) (hi : 0 ≤ i) :
  Calls Tryz.prog 179 #[.int .i64 i, .pointer (some ⟨g, 0, none⟩)] W fun e w' => e = .returned (.bool (Go.bits .and .u32 (shr .u32 b i) 1 == 1)) ∧ Drawn0 W w' := by
 have hc1 := (aaz h1 0).trans rfl
 obtain ⟨z, hz⟩ : ∃ z : Int, shr .u32 b i = z := ⟨_, rfl⟩
 have hz_ : (b / 2 ^ min i.toNat 32) = z := hz
 have hzz : i ≤ 32 → (b / 2 ^ i.toNat) = z := shr_small hz
 have hi1 := eq_true hi
 have hi2 : decide (0 ≤ i) = true := decide_eq_true hi
 rw [hz]
 go_enter Tryz.func179, Tryz.ntmps179
 go_wp2
 go_ret
 exact ⟨rfl, Drawn0.refl _⟩
set_option maxRecDepth 100000 in
set_option maxHeartbeats 1000000 in
theorem a7z.calls (a0 : Int) (a1 : Int) (r : Int) (w : World) (h : a7z.f a0 a1 = some r) :
  Calls Tryz.prog 166 #[.int .u32 a0, .int .u32 a1] w fun e w' => e = .returned (.int .u64 r) ∧ Below w.heap.size w w' := by
 unfold a7z.f at h
 cases hn : bits_Len32.f a1 with
 | none => rw [hn] at h; cases h
 | some n =>
  rw [hn] at h
  simp only [Option.bind_some] at h
  by_cases h0 : 0 ≤ n
  case neg => rw [if_neg h0] at h; cases h
  rw [if_pos h0] at h
  by_cases h32 : n ≤ 32
  case neg => rw [if_neg h32] at h; cases h
  rw [if_pos h32] at h
  cases h
  have HN := Aside0.mk hn
  clear hn
  go_enter Tryz.func166, Tryz.ntmps166
  go_wp2_with (first | (go_at_call 180; refine (bits_Len32.calls a1 n _ HN.out).mono ?_; rintro e w9 ⟨rfl, m9, rfl⟩))
  go_loopw [5, 11] (fun p i wr => ∃ k : Nat, (k : Int) ≤ n ∧ p = .int .u64 (a7z.at_ a0 a1 k) ∧ i = .int .i64 k ∧ Aside0 (Below w.heap.size w wr) ∧ Aside0 (wr.heap[w.heap.size]? = some (.cells #[.int .u32 a1] 70 (0, 0))))
   (fun _ i _ => 40 - (intOf i).toNat)
  case atStart => exact ⟨0, h0, rfl, rfl, ⟨by repeat (first | exact Below.refl _ _ | apply akz | apply acz)⟩, ⟨by simpa using heap_alloc_new w _⟩⟩
  obtain ⟨k, hk, rfl, rfl, HB, BK⟩ := hrel
  by_cases hlt : (k : Int) < n
  ·obtain ⟨z, hz⟩ : ∃ z : Int, shl .u64 (IntKind.u64.wrap a0) (k : Int) = z := ⟨_, rfl⟩
   have hz_ : (IntKind.u64.wrap (IntKind.u64.wrap a0 * 2 ^ min (k : Int).toNat 64)) = z := hz
   have hzz : (k : Int) ≤ 64 → (IntKind.u64.wrap (IntKind.u64.wrap a0 * 2 ^ (k : Int).toNat)) = z := shl_small hz
   have hs : a7z.at_ a0 a1 (k + 1) = if (Go.bits .and .u32 (shr .u32 a1 (k : Int)) 1 == 1) = true then Go.bits .xor .u64 (a7z.at_ a0 a1 k) z else a7z.at_ a0 a1 k := by
    simp only [a7z.at_, beq_iff_eq, hz]
   generalize hq : (Go.bits .and .u32 (shr .u32 a1 (k : Int)) 1 == 1) = q at hs
   have HQ := Aside0.mk hq
   have HS := Aside0.mk hs
   clear hq hs
   cases q with
   | true =>
    go_wp2_with (first | (go_at_call 179; refine (poly_Mul1.calls a1 (k : Int) w.heap.size _ BK.out (by omega)).mono ?_; rintro e w9 ⟨rfl, m9, rfl⟩; rw [HQ.out]))
    go_roundw
    case rel => exact ⟨k + 1, by omega, by rw [HS.out, if_pos (by trivial), ← hzz (by omega)]; simp, by go_num, ⟨by repeat (first | exact HB.out | apply akz)⟩, ⟨BK.out⟩⟩
    case measure => simp [intOf]; omega
   | false =>
    go_wp2_with (first | (go_at_call 179; refine (poly_Mul1.calls a1 (k : Int) w.heap.size _ BK.out (by omega)).mono ?_; rintro e w9 ⟨rfl, m9, rfl⟩; rw [HQ.out]))
    go_roundw
    case rel => exact ⟨k + 1, by omega, by rw [HS.out]; rfl, by go_num, ⟨by repeat (first | exact HB.out | apply akz)⟩, ⟨BK.out⟩⟩
    case measure => simp [intOf]; omega
  ·have : n = (k : Int) := by omega
   subst this
   go_wp2
   go_ret
   exact ⟨by simp, HB.out⟩
def aZz.f (k : Nat) (a0 : Int) (a1 : Int) (a2 : Int) : Option (Int) := (a7z.f a0 a1).bind fun t711 => ((aKz.f k t711 a2).bind fun t712 => (some t712))
set_option maxHeartbeats 8000000 in
set_option maxRecDepth 100000 in
theorem aZz.calls (k : Nat) (a0 : Int) (a1 : Int) (a2 : Int) (r : Int) (w : World) (h : aZz.f k a0 a1 a2 = some r) :
  Calls Tryz.prog 142 #[.int .u32 a0, .int .u32 a1, .int .u32 a2] w fun e w' => e = .returned (.int .u32 r) ∧ Below w.heap.size w w' := by
 have HB := Aside0.mk (Below.refl w.heap.size w)
 have H := h
 clear h
 unfold aZz.f at H
 obtain ⟨t711, A4, H⟩ := ob_ H
 (try dsimp only at H)
 obtain ⟨t712, A5, H⟩ := ob_ H
 (try dsimp only at H)
 obtain rfl := Option.some.inj H
 go_enter Tryz.func142, Tryz.ntmps142
 go_wp2_with (first | ((with_reducible refine ajz (f := 166) rfl ?_); refine gl_ (some 9) Tryz.func166 #[.int .u32 a0, .int .u32 a1] ?_; (with_reducible refine (a7z.calls a0 a1 t711 _ A4.out).mono ?_); rintro e w6 ⟨rfl, hb⟩; refine ⟨_, rfl, ?_⟩; have n0_ := hs_ HB hb; clear HB; have HB := n0_; clear n0_; (try clear hb)) | ((with_reducible refine ajz (f := 154) rfl ?_); refine gl_ (some 11) Tryz.func154 #[.int .u64 t711, .int .u32 a2] ?_; (with_reducible refine (aKz.calls k t711 a2 t712 _ A5.out).mono ?_); rintro e w' ⟨rfl, ⟨nd, rfl⟩⟩; refine ⟨_, rfl, ?_⟩))
 go_ret
 exact ⟨er_, bl_⟩
def aTz.l0 : Nat → Int → Int → Int → Int → Option (Int)
 | 0, _, _, _, _ => none
 | k + 1, x1, x5, x8, x9 => if x9 < x8 then ((aZz.f k x5 x5 x1).bind fun t714 => (aTz.l0 k x1 t714 x8 (wrap64 (x9 + 1)))) else (some x5)
def aTz.f (k : Nat) (a0 : Int) (a1 : Int) : Option (Int) := (aKz.f k 2 a1).bind fun t713 => (aTz.l0 k a1 t713 a0 0)
set_option maxHeartbeats 8000000 in
set_option maxRecDepth 100000 in
theorem aTz.calls (k : Nat) (a0 : Int) (a1 : Int) (r : Int) (w : World) (h : aTz.f k a0 a1 = some r) :
  Calls Tryz.prog 175 #[.int .i64 a0, .int .u32 a1] w fun e w' => e = .returned (.int .u32 r) ∧ Below w.heap.size w w' := by
 have HB := Aside0.mk (Below.refl w.heap.size w)
 have H := h
 clear h
 unfold aTz.f at H
 obtain ⟨t713, A3, H⟩ := ob_ H
 (try dsimp only at H)
 have H' := Aside0.mk H
 clear H
 go_enter Tryz.func175, Tryz.ntmps175
 go_wp2_with (first | ((with_reducible refine ajz (f := 154) rfl ?_); refine gl_ (some 7) Tryz.func154 #[.int .u64 2, .int .u32 a1] ?_; (with_reducible refine (aKz.calls k 2 a1 t713 _ A3.out).mono ?_); rintro e w' ⟨rfl, ⟨nd, rfl⟩⟩; refine ⟨_, rfl, ?_⟩))
 go_loopg [5, 9] k (fun kq v5 v9 w' => ∃ (x5_1 : Int) (x9_1 : Int), v5 = .int .u32 x5_1 ∧ v9 = .int .i64 x9_1 ∧ Aside0 (aTz.l0 kq a1 x5_1 a0 x9_1 = some r) ∧ Aside0 (kq ≤ k) ∧ Aside0 (Below w.heap.size w w'))
 case atStart => exact ⟨(t713), (0), sd_, sd_, H', ⟨Nat.le_refl _⟩, ⟨bl_⟩⟩
 clear H'
 obtain ⟨x5_1, x9_1, rfl, rfl, HA, HK1, HB⟩ := hrel
 rcases gk with _ | k1
 ·exact absurd HA.out (by simp [aTz.l0])
 have H := HA.out
 clear HA
 simp only [aTz.l0] at H
 by_cases c4 : x9_1 < a0
 ·rw [if_pos c4] at H
  have c4b0 := decide_eq_true c4
  clear c4
  obtain ⟨t714, A5, H⟩ := ob_ H
  (try dsimp only at H)
  have H' := Aside0.mk H
  clear H
  go_wp2_with (first | ((with_reducible refine ajz (f := 142) rfl ?_); refine gl_ (some 14) Tryz.func142 #[.int .u32 x5_1, .int .u32 x5_1, .int .u32 a1] ?_; (with_reducible refine (aZz.calls k1 x5_1 x5_1 a1 t714 _ A5.out).mono ?_); rintro e w6 ⟨rfl, hb⟩; refine ⟨_, rfl, ?_⟩; have n0_ := hs_ HB hb; clear HB; have HB := n0_; clear n0_; (try clear hb)))
  go_roundg k1
  case measure => have := HK1.out; omega
  case rel => exact ⟨(t714), (wrap64 (x9_1 + 1)), sd_, sd_, H', ⟨by have := HK1.out; omega⟩, ⟨bl_⟩⟩
 ·rw [if_neg c4] at H
  have c4b0 := decide_eq_false c4
  clear c4
  obtain rfl := Option.some.inj H
  go_wp2
  go_ret
  exact ⟨er_, bl_⟩
def bzz.l0 : Nat → Int → Int → Option (Int)
 | 0, _, _ => none
 | k + 1, x0, x1 => if x1 = 0 then (some x0) else ((aKz.f k (IntKind.u64.wrap (x0)) x1).bind fun t715 => (bzz.l0 k x1 t715))
def bzz.f (k : Nat) (a0 : Int) (a1 : Int) : Option (Int) := bzz.l0 k a0 a1
set_option maxHeartbeats 8000000 in
set_option maxRecDepth 100000 in
theorem bzz.calls (k : Nat) (a0 : Int) (a1 : Int) (r : Int) (w : World) (h : bzz.f k a0 a1 = some r) :
  Calls Tryz.prog 176 #[.int .u32 a0, .int .u32 a1] w fun e w' => e = .returned (.int .u32 r) ∧ Drawn0 w w' := by
 have H := h
 clear h
 unfold bzz.f at H
 have H' := Aside0.mk H
 clear H
 go_enter Tryz.func176, Tryz.ntmps176
 go_wp2
 go_loopg [0, 1] k (fun kq v0 v1 w' => ∃ (x0_1 : Int) (x1_1 : Int), v0 = .int .u32 x0_1 ∧ v1 = .int .u32 x1_1 ∧ Aside0 (bzz.l0 kq x0_1 x1_1 = some r) ∧ Aside0 (kq ≤ k) ∧ Drawn0 w w')
 case atStart => exact ⟨(a0), (a1), sd_, sd_, H', ⟨Nat.le_refl _⟩, dn_⟩
 clear H'
 obtain ⟨x0_1, x1_1, rfl, rfl, HA, HK1, ⟨m1, rfl⟩⟩ := hrel
 rcases gk with _ | k1
 ·exact absurd HA.out (by simp [bzz.l0])
 have H := HA.out
 clear HA
 simp only [bzz.l0] at H
 by_cases c3 : x1_1 = 0
 ·rw [if_pos c3] at H
  have c3b0 : (x1_1 == 0) = true := beq_iff_eq.mpr c3
  have c3b1 : (x1_1 != 0) = false := bne_eq_false_iff_eq.mpr c3
  clear c3
  obtain rfl := Option.some.inj H
  go_wp2
  go_ret
  exact ⟨sd_, dn_⟩
 ·rw [if_neg c3] at H
  have c3b0 : (x1_1 == 0) = false := beq_eq_false_iff_ne.mpr c3
  have c3b1 : (x1_1 != 0) = true := bne_iff_ne.mpr c3
  obtain ⟨t715, A4, H⟩ := ob_ H
  (try dsimp only at H)
  have H' := Aside0.mk H
  clear H
  go_wp2_with (first | ((with_reducible refine ajz (f := 154) rfl ?_); refine gl_ (some 11) Tryz.func154 #[.int .u64 (IntKind.u64.wrap (x0_1)), .int .u32 x1_1] ?_; (with_reducible refine (aKz.calls k1 (IntKind.u64.wrap (x0_1)) x1_1 t715 _ A4.out).mono ?_); rintro e w' ⟨rfl, ⟨nd, rfl⟩⟩; refine ⟨_, rfl, ?_⟩))
  go_roundg k1
  case measure => have := HK1.out; omega
  case rel => exact ⟨(x1_1), (t715), sd_, sd_, H', ⟨by have := HK1.out; omega⟩, dn_⟩
mutual
def aBz.j0 : Nat → Int → Int → Bool → Option (Bool)
 | 0, _, _, _ => none
 | k + 1, x0, x3, x21 => if x21 = true then (some false) else (aBz.l0 k x0 x3 1)
def aBz.l0 : Nat → Int → Int → Int → Option (Bool)
 | 0, _, _, _ => none
 | k + 1, x0, x3, x4 => if x4 ≤ (wrap64 (Int.tdiv x3 2)) then ((aTz.f k x4 x0).bind fun t719 => ((bzz.f k x0 (Go.bits .xor .u32 t719 2)).bind fun t720 => (if t720 = 1 then (aBz.l0 k x0 x3 (wrap64 (x4 + 1))) else (some false)))) else (some true)
end
def aBz.f (k : Nat) (a0 : Int) : Option (Bool) := (bbz.f (IntKind.u64.wrap (a0))).bind fun t716 => (if t716 < 1 then (aBz.j0 k a0 t716 true) else (if t716 > 16 then (aBz.j0 k a0 t716 true) else ((aTz.f k t716 a0).bind fun t717 => ((aKz.f k 2 a0).bind fun t718 => (aBz.j0 k a0 t716 (t717 != t718))))))
set_option maxHeartbeats 8000000 in
set_option maxRecDepth 100000 in
theorem aBz.calls (k : Nat) (a0 : Int) (r : Bool) (w : World) (h : aBz.f k a0 = some r) :
  Calls Tryz.prog 153 #[.int .u32 a0] w fun e w' => e = .returned (.bool r) ∧ Below w.heap.size w w' := by
 have HB := Aside0.mk (Below.refl w.heap.size w)
 have H := h
 clear h
 unfold aBz.f at H
 obtain ⟨t716, A2, H⟩ := ob_ H
 (try dsimp only at H)
 have HC3 := Aside0.mk H
 clear H
 go_enter Tryz.func153, Tryz.ntmps153
 go_upto_region 2 with (first | ((with_reducible refine ajz (f := 115) rfl ?_); refine gl_ (some 7) Tryz.func115 #[.int .u64 (IntKind.u64.wrap (a0))] ?_; (with_reducible refine (bbz.calls (IntKind.u64.wrap (a0)) t716 _ A2.out).mono ?_); rintro e w' ⟨rfl, ⟨nd, rfl⟩⟩; refine ⟨_, rfl, ?_⟩))
 (try simp only [Act.put, List.setIfInBounds_toArray, List.set_cons_zero, List.set_cons_succ])
 go_cut [21] (fun v21 wc => ∃ (kq : Nat) (x21_2 : Bool), v21 = .bool x21_2 ∧ Aside0 (aBz.j0 kq a0 t716 x21_2 = some r) ∧ Aside0 (kq ≤ k) ∧ Aside0 (Below w.heap.size w wc))
 case first =>
  have H := HC3.out
  clear HC3
  by_cases c4 : t716 < 1
  ·rw [if_pos c4] at H
   have c4b0 := decide_eq_true c4
   clear c4
   (first | rw [c4b0] | (simp only [i64_w, i32_w]; rw [c4b0]) | skip)
   have H' := Aside0.mk H
   clear H
   go_wp2
   go_meet
   case rel => exact ⟨_, (true), sd_, H', ⟨by first | omega | exact Nat.le_refl _⟩, ⟨bl_⟩⟩
  ·rw [if_neg c4] at H
   have c4b0 := decide_eq_false c4
   clear c4
   (first | rw [c4b0] | (simp only [i64_w, i32_w]; rw [c4b0]) | skip)
   by_cases c5 : t716 > 16
   ·rw [if_pos c5] at H
    have c5b0 : decide (16 < t716) = true := decide_eq_true c5
    clear c5
    have H' := Aside0.mk H
    clear H
    go_wp2
    go_meet
    case rel => exact ⟨_, (true), sd_, H', ⟨by first | omega | exact Nat.le_refl _⟩, ⟨bl_⟩⟩
   ·rw [if_neg c5] at H
    have c5b0 : decide (16 < t716) = false := decide_eq_false c5
    clear c5
    obtain ⟨t717, A6, H⟩ := ob_ H
    (try dsimp only at H)
    obtain ⟨t718, A7, H⟩ := ob_ H
    (try dsimp only at H)
    have H' := Aside0.mk H
    clear H
    go_wp2_with (first | (go_at_call 175; (with_reducible refine (aTz.calls k t716 a0 t717 _ A6.out).mono ?_); rintro e w8 ⟨rfl, hb⟩; have n0_ := hs_ HB hb; clear HB; have HB := n0_; clear n0_; (try clear hb)) | (go_at_call 154; (with_reducible refine (aKz.calls k 2 a0 t718 _ A7.out).mono ?_); rintro e w' ⟨rfl, ⟨nd, rfl⟩⟩))
    go_meet
    case rel => exact ⟨_, ((t717 != t718)), sd_, H', ⟨by first | omega | exact Nat.le_refl _⟩, ⟨bl_⟩⟩
 case rest =>
  clear HC3
  obtain ⟨kq, x21_2, rfl, HA, HJ2, HB⟩ := hcut
  rcases kq with _ | kj2
  ·exact absurd HA.out (by simp [aBz.j0])
  have H := HA.out
  clear HA
  simp only [aBz.j0] at H
  by_cases c9 : x21_2 = true
  ·subst c9
   rw [if_pos rfl] at H
   obtain rfl := Option.some.inj H
   go_wp2
   go_ret
   exact ⟨er_, bl_⟩
  ·replace c9 := Bool.eq_false_iff.mpr c9
   subst c9
   rw [if_neg (show ¬ (false = true) by decide)] at H
   have H' := Aside0.mk H
   clear H
   go_wp2
   go_loopg [4] kj2 (fun kq v4 w' => ∃ (x4_2 : Int), v4 = .int .i64 x4_2 ∧ Aside0 (aBz.l0 kq a0 t716 x4_2 = some r) ∧ Aside0 (kq ≤ kj2) ∧ Aside0 (Below w.heap.size w w'))
   case atStart => exact ⟨(1), sd_, H', ⟨Nat.le_refl _⟩, ⟨bl_⟩⟩
   clear H'
   obtain ⟨x4_2, rfl, HA, HK2, HB⟩ := hrel
   rcases gk with _ | k2
   ·exact absurd HA.out (by simp [aBz.l0])
   have H := HA.out
   clear HA
   simp only [aBz.l0] at H
   by_cases c10 : x4_2 ≤ (wrap64 (Int.tdiv t716 2))
   rotate_left
   ·rw [if_neg c10] at H
    have c10b0 := decide_eq_false c10
    clear c10
    obtain rfl := Option.some.inj H
    go_wp2
    go_ret
    exact ⟨er_, bl_⟩
   rw [if_pos c10] at H
   have c10b0 := decide_eq_true c10
   clear c10
   obtain ⟨t719, A11, H⟩ := ob_ H
   (try dsimp only at H)
   obtain ⟨t720, A12, H⟩ := ob_ H
   (try dsimp only at H)
   by_cases c13 : t720 = 1
   ·rw [if_pos c13] at H
    have c13b0 : (t720 == 1) = true := beq_iff_eq.mpr c13
    have c13b1 : (t720 != 1) = false := bne_eq_false_iff_eq.mpr c13
    clear c13
    have H' := Aside0.mk H
    clear H
    go_wp2_with (first | ((with_reducible refine ajz (f := 175) rfl ?_); refine gl_ (some 31) Tryz.func175 #[.int .i64 x4_2, .int .u32 a0] ?_; (with_reducible refine (aTz.calls k2 x4_2 a0 t719 _ A11.out).mono ?_); rintro e w14 ⟨rfl, hb⟩; refine ⟨_, rfl, ?_⟩; have n0_ := hs_ HB hb; clear HB; have HB := n0_; clear n0_; (try clear hb)) | ((with_reducible refine ajz (f := 176) rfl ?_); refine gl_ (some 33) Tryz.func176 #[.int .u32 a0, .int .u32 (Go.bits .xor .u32 t719 2)] ?_; (with_reducible refine (bzz.calls k2 a0 (Go.bits .xor .u32 t719 2) t720 _ A12.out).mono ?_); rintro e w' ⟨rfl, ⟨nd, rfl⟩⟩; refine ⟨_, rfl, ?_⟩))
    go_roundg k2
    case measure => have := HJ2.out; have := HK2.out; omega
    case rel => exact ⟨(wrap64 (x4_2 + 1)), sd_, H', ⟨by have := HJ2.out; have := HK2.out; omega⟩, ⟨bl_⟩⟩
   ·rw [if_neg c13] at H
    have c13b0 : (t720 == 1) = false := beq_eq_false_iff_ne.mpr c13
    have c13b1 : (t720 != 1) = true := bne_iff_ne.mpr c13
    obtain rfl := Option.some.inj H
    go_wp2_with (first | ((with_reducible refine ajz (f := 175) rfl ?_); refine gl_ (some 31) Tryz.func175 #[.int .i64 x4_2, .int .u32 a0] ?_; (with_reducible refine (aTz.calls k2 x4_2 a0 t719 _ A11.out).mono ?_); rintro e w15 ⟨rfl, hb⟩; refine ⟨_, rfl, ?_⟩; have n0_ := hs_ HB hb; clear HB; have HB := n0_; clear n0_; (try clear hb)) | ((with_reducible refine ajz (f := 176) rfl ?_); refine gl_ (some 33) Tryz.func176 #[.int .u32 a0, .int .u32 (Go.bits .xor .u32 t719 2)] ?_; (with_reducible refine (bzz.calls k2 a0 (Go.bits .xor .u32 t719 2) t720 _ A12.out).mono ?_); rintro e w' ⟨rfl, ⟨nd, rfl⟩⟩; refine ⟨_, rfl, ?_⟩))
    go_ret
    exact ⟨er_, bl_⟩
structure BB (w w' : World) (g : Nat) : Prop where
 os : w'.os = w.os
 tape : w'.tape = w.tape
 output : w'.output = w.output
 size : w.heap.size ≤ w'.heap.size
 block : ∀ i, i < w.heap.size → i ≠ g → w'.heap[i]? = w.heap[i]?
theorem BB.of_below {w w' : World} (h : Below w.heap.size w w') (g : Nat) : BB w w' g := ⟨h.os, h.tape, h.output, h.size, fun i hi _ => h.block i hi⟩
theorem BB.refl (w : World) (g : Nat) : BB w w g := BB.of_below (Below.refl _ _) g
theorem BB.trans {a b c : World} {g : Nat} (h : BB a b g) (k : BB b c g) : BB a c g :=
 ⟨k.os.trans h.os, k.tape.trans h.tape, k.output.trans h.output, Nat.le_trans h.size k.size, fun i hi hg => (k.block i (Nat.lt_of_lt_of_le hi h.size) hg).trans (h.block i hi hg)⟩
theorem BB.keep {w w' : World} {g : Nat} (h : BB w w' g) : KeepBut w w' g none := ⟨h.size, fun i hi hg _ => h.block i hi hg⟩
theorem BB.below {w0 w w' : World} {g : Nat} (h : BB w w' g) (hB : Below w0.heap.size w0 w) (hg : w0.heap.size ≤ g) : Below w0.heap.size w0 w' :=
 ⟨h.os.trans hB.os, h.tape.trans hB.tape, h.output.trans hB.output, Nat.le_trans hB.size h.size, fun i hi => (h.block i (Nat.lt_of_lt_of_le hi hB.size) (by omega)).trans (hB.block i hi)⟩
theorem BB.drew {a b : World} {g : Nat} (h : BB a b g) : BB a b.drew g := ⟨h.os, h.tape, h.output, h.size, h.block⟩
theorem BB.drewN {a b : World} {g : Nat} (h : BB a b g) (n : Nat) : BB a (b.drewN n) g := ⟨h.os, h.tape, h.output, h.size, h.block⟩
theorem BB.alloc {a b : World} {g : Nat} (h : BB a b g) (o : Obj) : BB a (b.alloc o) g := h.trans (BB.of_below (acz (Below.refl _ _) o) g)
theorem BB.set {a b : World} {g : Nat} (h : BB a b g) (j : Nat) (u : Value) : BB a (b.setCell ⟨g, j, none⟩ u) g :=
 ⟨h.os, h.tape, h.output, by simpa using h.size, fun i hi hg => (Below.heap_setCell b ⟨g, j, none⟩ u i hg).trans (h.block i hi hg)⟩
theorem BB.new {a b : World} {g n : Nat} (h : BB a b g) (hn : a.heap.size ≤ n) (j : Nat) (u : Value) : BB a (b.setCell ⟨n, j, none⟩ u) g :=
 ⟨h.os, h.tape, h.output, by simpa using h.size, fun i hi hg => (Below.heap_setCell b ⟨n, j, none⟩ u i (by show i ≠ n; omega)).trans (h.block i hi hg)⟩
def gpN : Nat → Nat
 | 0 => 1
 | i + 1 => xt 128 285 (gpN i)
def expAt : Nat → List Int
 | 0 => List.replicate 256 0
 | i + 1 => (expAt i).set i (gpN i : Int)
def logAt : Nat → List Int
 | 0 => List.replicate 256 0
 | i + 1 => (logAt i).set (gpN i) (i : Int)
theorem c5z : ∀ i, (expAt i).length = 256
 | 0 => List.length_replicate
 | i + 1 => by rw [expAt, List.length_set, c5z i]
theorem c6z : ∀ i, (logAt i).length = 256
 | 0 => List.length_replicate
 | i + 1 => by rw [logAt, List.length_set, c6z i]
theorem gpN_range : ∀ i, i < 256 → 1 ≤ gpN i ∧ gpN i < 256 := by decide +kernel
def freshF (wb p : Int) : Array Value := #[.int .i64 wb, .int .u32 p, .int .u32 0, .int .i32 0, .int .u32 0, .slice none 0 0, .slice none 0 0]
def readyF (wb p : Int) (a b : Nat) : Array Value := #[.int .i64 wb, .int .u32 p, .int .u32 1, .int .i32 0, .int .u32 0, .slice (some ⟨a, 0, none⟩) 256 256, .slice (some ⟨b, 0, none⟩) 256 256]
def Fd (W : World) (g : Nat) (wb p : Int) (S : Nat → Prop) : Prop :=
 ¬ S g ∧ (W.heap[g]? = some (.cells (freshF wb p) 165 (0, 0)) ∨
  (wb = 8 ∧ p = 285 ∧ ∃ a b, W.heap[g]? = some (.cells (readyF wb p a b) 165 (0, 0)) ∧ W.heap[a]? = some (.cells (nums .i64 (expAt 255)).toArray 3 (0, 0)) ∧ W.heap[b]? = some (.cells (nums .i64 (logAt 255)).toArray 3 (0, 0)) ∧ ¬ S a ∧ ¬ S b))
theorem Fd.lt {W : World} {g : Nat} {wb p : Int} {S : Nat → Prop} (h : Fd W g wb p S) : g < W.heap.size := by
 obtain ⟨-, h | ⟨-, -, a, b, h, -⟩⟩ := h
 ·exact awz h
 ·exact awz h
theorem Fd.move {W W1 : World} {g : Nat} {wb p : Int} {S : Nat → Prop} (h : Fd W g wb p S) (hm : ∀ k, ¬ S k → k < W.heap.size → W1.heap[k]? = W.heap[k]?) : Fd W1 g wb p S := by
 obtain ⟨hg, h | ⟨h8, hp, a, b, h, ha, hb, na, nb⟩⟩ := h
 ·exact ⟨hg, .inl ((hm g hg (awz h)).trans h)⟩
 ·exact ⟨hg, .inr ⟨h8, hp, a, b, (hm g hg (awz h)).trans h, (hm a na (awz ha)).trans ha, (hm b nb (awz hb)).trans hb, na, nb⟩⟩
theorem Fd.thin {W : World} {g : Nat} {wb p : Int} {S S' : Nat → Prop} (h : Fd W g wb p S) (hs : ∀ k, k < W.heap.size → S' k → S k) : Fd W g wb p S' := by
 obtain ⟨hg, h | ⟨h8, hp, a, b, h, ha, hb, na, nb⟩⟩ := h
 ·exact ⟨fun s => hg (hs _ (awz h) s), .inl h⟩
 ·exact ⟨fun s => hg (hs _ (awz h) s), .inr ⟨h8, hp, a, b, h, ha, hb, fun s => na (hs _ (awz ha) s), fun s => nb (hs _ (awz hb) s)⟩⟩
theorem Fd.more {W : World} {g : Nat} {wb p : Int} {S : Nat → Prop} (h : Fd W g wb p S) : Fd W g wb p (fun k => S k ∨ W.heap.size ≤ k) := h.thin (fun _ hk hs => hs.resolve_right (by omega))
theorem Fd.below {W W1 : World} {g : Nat} {wb p : Int} {S : Nat → Prop} (h : Fd W g wb p S) (hb : Below W.heap.size W W1) : Fd W1 g wb p S := h.move (fun k _ hk => hb.block k hk)
theorem Fd.alloc {W : World} {g : Nat} {wb p : Int} {S : Nat → Prop} (h : Fd W g wb p S) (o : Obj) : Fd (W.alloc o) g wb p S := h.below (acz (Below.refl _ _) o)
theorem Fd.drew {W : World} {g : Nat} {wb p : Int} {S : Nat → Prop} (h : Fd W g wb p S) : Fd W.drew g wb p S := h
theorem Fd.drewN {W : World} {g : Nat} {wb p : Int} {S : Nat → Prop} (h : Fd W g wb p S) (n : Nat) : Fd (W.drewN n) g wb p S := h
theorem Fd.set {W : World} {g : Nat} {wb p : Int} {S : Nat → Prop} (h : Fd W g wb p S) {q : Addr} (hq : S q.block) (u : Value) : Fd (W.setCell q u) g wb p S :=
 h.move (fun k hk _ => Below.heap_setCell W q u k (fun e => hk (e ▸ hq)))
theorem Fd.bits {W : World} {g : Nat} {wb p : Int} {S : Nat → Prop} (h : Fd W g wb p S) : W.cell? ⟨g, 0, none⟩ = some (.int .i64 wb) := by
 obtain ⟨-, h | ⟨-, -, a, b, h, -⟩⟩ := h
 ·exact (aaz h 0).trans rfl
 ·exact (aaz h 0).trans rfl
theorem Fd.poly {W : World} {g : Nat} {wb p : Int} {S : Nat → Prop} (h : Fd W g wb p S) : W.cell? ⟨g, 1, none⟩ = some (.int .u32 p) := by
 obtain ⟨-, h | ⟨-, -, a, b, h, -⟩⟩ := h
 ·exact (aaz h 1).trans rfl
 ·exact (aaz h 1).trans rfl
def fsize (wb : Int) : Int := if wb = 8 then 256 else 65536
def inF (wb a : Int) : Bool := decide (0 ≤ a) && decide (a < fsize wb)
def allIn (wb : Int) (l : List Int) : Bool := l.all fun a => decide (0 ≤ a) && decide (a < fsize wb)
def gmN (wb : Int) (a b : Nat) : Nat := if wb = 8 then gm 7 285 a b else gm 15 69643 a b
def gmul (wb a b : Int) : Int := if inF wb a && inF wb b then (gmN wb a.toNat b.toNat : Int) else 0
def gpwN (wb : Int) (a n : Nat) : Nat := if wb = 8 then gp 7 285 a n else gp 15 69643 a n
def gpow (wb a n : Int) : Int := if inF wb a && decide (0 ≤ n) then (gpwN wb a.toNat n.toNat : Int) else 0
def ginv (wb a : Int) : Int := if inF wb a && a != 0 then gpow wb a (fsize wb - 2) else 0
theorem log_at : ∀ i, i < 255 → (logAt 255).getD (gpN i) 0 = (i : Int) := by decide +kernel
theorem exp_at : ∀ i, i < 255 → (expAt 255).getD i 0 = (gpN i : Int) := by decide +kernel
theorem gpN_255 : gpN 255 = 1 := by decide +kernel
theorem gpN_all : ∀ a, a < 256 → a ≠ 0 → ∃ i, i < 255 ∧ gpN i = a := by
 have h : ∀ a, a < 256 → a ≠ 0 → gpN ((logAt 255).getD a 0).toNat = a ∧ ((logAt 255).getD a 0).toNat < 255 := by decide +kernel
 intro a ha h0
 exact ⟨_, (h a ha h0).2, (h a ha h0).1⟩
theorem gpN_lt8 : ∀ i, gpN i < 2 ^ (7 + 1)
 | 0 => by decide
 | i + 1 => xt_lt 7 285 _ (gpN_lt8 i) gf8.toGf.hq gf8.toGf.hq1
theorem gf8_pow_mul : ∀ (i j : Nat), j < 256 → gm 7 285 (gpN i) (gpN j) = gpN (i + j)
 | 0, j, hj => by
  rw [Nat.zero_add]
  exact gf8.toGf.bZz (gpN_range j hj).2
 | i + 1, j, hj => by
  have hl := gpN_lt8 i
  show gm 7 285 (xt (2 ^ 7) 285 (gpN i)) (gpN j) = _
  rw [gf8.toGf.xt_left hl, gf8_pow_mul i j hj, show i + 1 + j = i + j + 1 from by omega]
  rfl
theorem gpN_succ (i : Nat) : gpN (i + 1) = xt 128 285 (gpN i) := rfl
theorem gpN_period : ∀ i, gpN (i + 255) = gpN i
 | 0 => gpN_255
 | i + 1 => by
  rw [show i + 1 + 255 = (i + 255) + 1 from by omega, gpN_succ (i + 255), gpN_succ i, gpN_period i]
theorem gpN_mod (i : Nat) : gpN i = gpN (i % 255) := by
 have h : ∀ k r, gpN (r + 255 * k) = gpN r := by
  intro k
  induction k with
  | zero => intro r; rfl
  | succ k ih => intro r; rw [show r + 255 * (k + 1) = (r + 255 * k) + 255 from by omega, gpN_period, ih]
 have := h (i / 255) (i % 255)
 rwa [Nat.mod_add_div] at this
theorem tab_mul (a b : Nat) (ha : a < 256) (hb : b < 256) (ha0 : a ≠ 0) (hb0 : b ≠ 0) : ∃ i j : Nat, i < 255 ∧ j < 255 ∧ (logAt 255).getD a 0 = (i : Int) ∧ (logAt 255).getD b 0 = (j : Int) ∧ gpN ((i + j) % 255) = gm 7 285 a b := by
 obtain ⟨i, hi, rfl⟩ := gpN_all a ha ha0
 obtain ⟨j, hj, rfl⟩ := gpN_all b hb hb0
 exact ⟨i, j, hi, hj, log_at i hi, log_at j hj, by rw [← gpN_mod, gf8_pow_mul i j (by omega)]⟩
theorem gmul_out {wb a b : Int} (h : (inF wb a && inF wb b) = false) : gmul wb a b = 0 := by simp [gmul, h]
theorem gmul_zero_left (wb b : Int) : gmul wb 0 b = 0 := by
 unfold gmul
 split
 ·rw [Int.toNat_zero]; unfold gmN; split <;> rw [Gf.zero_left] <;> rfl
 ·rfl
theorem gmul_zero_right (wb a : Int) : gmul wb a 0 = 0 := by
 unfold gmul
 split
 ·rw [Int.toNat_zero]; unfold gmN; split <;> rw [Gf.dxz] <;> rfl
 ·rfl
theorem gmN_lt {wb : Int} (hw : wb = 8 ∨ wb = 16) {a : Nat} (b : Nat) (ha : (a : Int) < fsize wb) : (gmN wb a b : Int) < fsize wb := by
 rcases hw with rfl | rfl
 ·have := gf8.toGf.lt (a := a) (b := b) (by simp [fsize] at ha; omega)
  simp only [gmN, fsize, if_true]; omega
 ·have := gf16.toGf.lt (a := a) (b := b) (by simp [fsize] at ha; omega)
  simp only [gmN, fsize, show ¬ ((16 : Int) = 8) by decide, if_false]; omega
theorem bdz {wb : Int} (hw : wb = 8 ∨ wb = 16) (a b : Int) : 0 ≤ gmul wb a b ∧ gmul wb a b < fsize wb := by
 have hz : (0 : Int) < fsize wb := by rcases hw with rfl | rfl <;> decide
 unfold gmul
 split
 ·rename_i h
  simp only [Bool.and_eq_true, inF, decide_eq_true_eq] at h
  exact ⟨by omega, gmN_lt hw _ (by omega)⟩
 ·omega
end Go.Proofs.YtelcllhibpnneaaGreat.XCo
end
