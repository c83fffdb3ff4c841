-- Joined texts of this work (wip/tools/bundle.py).
import Derived.Test.YtpdakdcmahlghaaGreatProg
import Derived.Below
import Derived.Deep.Draws
import Derived.Deep.AppendLies
import Derived.Maps.AppendAt
import Derived.OwnWalk
import Derived.Laws.BytesArg
import Derived.Laws.MakeOwn
import Derived.Laws.OwnMore
import Derived.Deep.OwnRows
import Derived.Tactics
import Derived.Lib.ConvBytes
import Derived.Laws.Slices
import Derived.WalkKit
import Derived.KernelRfl
import Derived.RowKit3
import Derived.Deep.LoopGhost
import Derived.Deep.QuietTactic
import Derived.BigQuiet
import Derived.WideLaws
import Derived.Deep.DeepCutAuto
import Derived.Deep.CutBlock
import Derived.Deep.RegionHeld3
import Derived.Laws.Rows
import Derived.Lib.AppendStr
import Derived.ArgAppend
import Derived.Laws.IdiomCopy
import Derived.OrdersHeld
import Derived.Laws.BitsLemmas
import Derived.RowKit
import Derived.Test.YtpdakdcmahlghaaGreatBReconWhich1
import Derived.Test.YtpdakdcmahlghaaGreatBReconWhich3
set_option maxHeartbeats 8000000
set_option maxRecDepth 100000
set_option linter.unusedVariables false
set_option linter.unusedSimpArgs false
section
namespace Go.Proofs.Xc
open Go.RowKit Go.Proofs.Pw Go.Proofs.Pl Go.Proofs.Pm Tryz
attribute [local go_sem] a7z a8z bgz bhz aVz aWz a9z baz
def errW:Option Int->Value
 |none=> .nilIface
 |some c=> .iface 0 (.int .i64 c)
theorem cIz:errW none= .nilIface:=rfl
theorem cJz (c:Int):errW (some c)= .iface 0 (.int .i64 c):=rfl
theorem info3:(prog.info? 3).map (fun i=>(i.zero,i.size,i.bytes))=some (some (.int .i64 0),1,8):=by kernel_rfl
theorem info4:(prog.info? 4).map (fun i=>(i.zero,i.size,i.bytes))=some (some (.bool false),1,1):=by kernel_rfl
theorem info5:(prog.info? 5).map (fun i=>(i.zero,i.size,i.bytes))=some (some (.int .u8 0),1,1):=by kernel_rfl
theorem info34:(prog.info? 34).map (fun i=>(i.zero,i.size,i.bytes))=some (some (.slice none 0 0),1,24):=by kernel_rfl
theorem info57:(prog.info? 57).map (fun i=>(i.zero,i.size,i.bytes))=some (some (.slice none 0 0),1,24):=by kernel_rfl
def rd_L1 (xs:List (List Int)) (i:Int):(List Int):=xs.getD i.toNat ([] :List Int)
theorem at_L1 {w:World} {A:Option Addr} {n:Nat} {xs:List (List Int)} (h:Kd.C (Kd.slice 5 (Kd.int .u8)) w A n xs) (i:Int) (h0:0<=i) (h1:i<n): ∃ad A0 c0,A=some ad/\w.cell? (ad.add i.toNat)=some (.slice A0 (rd_L1 xs i).length c0)/\(rd_L1 xs i).length<=c0/\(Kd.int .u8).C w A0 (rd_L1 xs i).length (rd_L1 xs i):=by
 obtain ⟨ad,c,e,_,hK,a0⟩:=Kd.C_get h ([] :List Int) i h0 h1;have hc: ∀j u,c[j]?=some u->w.cell? (ad.add (i.toNat*1+j))=some u:=a0;obtain ⟨A0,c0,rfl,l0,g0⟩:=hK;exact ⟨ad,A0,c0,e,by have hq:=hc 0 _ rfl;rwa [Nat.mul_one,Nat.add_zero] at hq,l0,g0⟩
def rd_L4 (xs:List (List Int)) (i:Int):(List Int):=xs.getD i.toNat ([] :List Int)
theorem at_L4 {w:World} {A:Option Addr} {n:Nat} {xs:List (List Int)} (h:Kd.C (Kd.slice 3 (Kd.int .i64)) w A n xs) (i:Int) (h0:0<=i) (h1:i<n): ∃ad A0 c0,A=some ad/\w.cell? (ad.add i.toNat)=some (.slice A0 (rd_L4 xs i).length c0)/\(rd_L4 xs i).length<=c0/\(Kd.int .i64).C w A0 (rd_L4 xs i).length (rd_L4 xs i):=by
 obtain ⟨ad,c,e,_,hK,a0⟩:=Kd.C_get h ([] :List Int) i h0 h1;have hc: ∀j u,c[j]?=some u->w.cell? (ad.add (i.toNat*1+j))=some u:=a0;obtain ⟨A0,c0,rfl,l0,g0⟩:=hK;exact ⟨ad,A0,c0,e,by have hq:=hc 0 _ rfl;rwa [Nat.mul_one,Nat.add_zero] at hq,l0,g0⟩
def bL:Nat->Nat->List Bool
 |0,_=> []
 |n+1,m=>(m % 2==1)::bL n (m / 2)
def bA (n m:Nat):Array Bool:=(bL n m).toArray
section
variable {P : Program} {md : Region.Mode} {ops : Array Oper} {Q : Exit -> Act -> World -> Prop} {S : World -> Prop} {ds : List Nat} {oi : Oper} {v : Value} {fuel n m0 : Nat} {a a' : Act} {w : World} {T : Bool × List (List Nat × List Nat)} {B : List Nat}
theorem pu_ (i d m : Nat)
  (h:wpAnyLast P md ops Q S ds fuel (bA n m) a' w)
  (hi:ops[i]?=some oi:=by exact rfl) (hN:oi.dst=some d:=by exact rfl)
  (hc:anyB md ops (bA n m0) (bA n m) i=true:=by kernel_rfl)
  (hQ: ∀c v a w,Q (.panic c) (Act.put a (some d) v) w->Q (.panic c) a w:=by exact fun _ _ _ _ h=>h)
  (hy:Yields P ops oi v a:=by (refine Or.inl ⟨by rfl,?_⟩;intro w';go_simp;with_reducible rfl))
  (ha:a.put (some d) v=a':=by (simp only [Act.put,List.setIfInBounds_toArray,List.set_cons_zero,List.set_cons_succ,i64_w,i32_w];rfl)):
  wpAnyLast P md ops Q S ds (fuel+1) (bA n m0) a w:=pure_ _ hi hN hc (fun c a w=>by rw [hN];exact hQ c _ a w) hy ha h
theorem pv_ (i d m : Nat) (HT : Aside0 (rtab md ops = T))
  (h:wpAnyLast P md ops Q S ds fuel (bA n m) a' w)
  (hi:ops[i]?=some oi:=by exact rfl) (hN:oi.dst=some d:=by exact rfl)
  (hc:anyT T (bA n m0).toList (bA n m).toList i=true:=by kernel_rfl)
  (hQ: ∀c v a w,Q (.panic c) (Act.put a (some d) v) w->Q (.panic c) a w:=by exact fun _ _ _ _ h=>h)
  (hy:Yields P ops oi v a:=by (refine Or.inl ⟨by rfl,?_⟩;intro w';go_simp;with_reducible rfl))
  (ha:a.put (some d) v=a':=by (simp only [Act.put,List.setIfInBounds_toArray,List.set_cons_zero,List.set_cons_succ,i64_w,i32_w];rfl)):
  wpAnyLast P md ops Q S ds (fuel+1) (bA n m0) a w:=pure_ _ hi hN (any_of HT.o hc) (fun c a w=>by rw [hN];exact hQ c _ a w) hy ha h
theorem pn_ (i d m : Nat) (HT : Aside0 (rtab md ops = T))
  (h:wpAnyLast P md ops Q S ds fuel (bA n m) a' w)
  (hi:ops[i]?=some oi:=by exact rfl) (hN:oi.dst=some d:=by exact rfl)
  (hc:anyT T (bA n m0).toList (bA n m).toList i=true:=by kernel_rfl)
  (hQ: ∀c a w,Q (.panic c) (Act.put a (some d) undef) w->Q (.panic c) a w:=by exact fun _ _ _ h=>h)
  (hy:Yields P ops oi undef a:=by exact Or.inr ⟨by rfl,rfl⟩)
  (ha:a.put (some d) undef=a':=by (simp only [Act.put,List.setIfInBounds_toArray,List.set_cons_zero,List.set_cons_succ,i64_w,i32_w];rfl)):
  wpAnyLast P md ops Q S ds (fuel+1) (bA n m0) a w:=pure_ _ hi hN (any_of HT.o hc) (fun c a w=>by rw [hN];exact hQ c a w) hy ha h
theorem tk_ (i d m : Nat) (hS : S w)
  (h:wpAnyLast P md ops Q S ds fuel (bA n m) a' w)
  (hi:ops[i]?=some oi:=by exact rfl) (hN:oi.dst=some d:=by exact rfl)
  (hc:takeB md ops ds (bA n m0) (bA n m) i=true:=by kernel_rfl)
  (hQ: ∀c v a w,Q (.panic c) (Act.put a (some d) v) w->Q (.panic c) a w:=by exact fun _ _ _ _ h=>h)
  (hy:YieldsIf P ops S oi v a:=by (refine Or.inl ⟨by rfl,?_⟩;intro w' hs;(try dsimp only at hs);(repeat (rcases hs with ⟨s0,hs⟩));go_simp;with_reducible rfl))
  (ha:a.put (some d) v=a':=by (simp only [Act.put,List.setIfInBounds_toArray,List.set_cons_zero,List.set_cons_succ,i64_w,i32_w];rfl)):
  wpAnyLast P md ops Q S ds (fuel+1) (bA n m0) a w:=take_ _ hi hN hc (fun c a w=>by rw [hN];exact hQ c _ a w) hy hS ha h
theorem tw_ (i d m : Nat) (HT : Aside0 (rtab md ops = T)) (HW : Aside0 (waitsOk T.2 B = true)) (hS : S w)
  (h:wpAnyLast P md ops Q S ds fuel (bA n m) a' w)
  (hi:ops[i]?=some oi:=by exact rfl) (hN:oi.dst=some d:=by exact rfl)
  (hc:takeW T B ds (bA n m0).toList (bA n m).toList i=true:=by kernel_rfl)
  (hQ: ∀c v a w,Q (.panic c) (Act.put a (some d) v) w->Q (.panic c) a w:=by exact fun _ _ _ _ h=>h)
  (hy:YieldsIf P ops S oi v a:=by (refine Or.inl ⟨by rfl,?_⟩;intro w' hs;(try dsimp only at hs);(repeat (rcases hs with ⟨s0,hs⟩));go_simp;with_reducible rfl))
  (ha:a.put (some d) v=a':=by (simp only [Act.put,List.setIfInBounds_toArray,List.set_cons_zero,List.set_cons_succ,i64_w,i32_w];rfl)):
  wpAnyLast P md ops Q S ds (fuel+1) (bA n m0) a w:=take_ _ hi hN (take_ofW HT.o HW.o hc) (fun c a w=>by rw [hN];exact hQ c _ a w) hy hS ha h
end
theorem kr_ {p:Prop} (h:p:=by kernel_rfl):p:=h
theorem bl_ {p:Prop} (h:p:=by repeat (first|(with_reducible first|exact HB.o|apply aoz|apply a2z|apply b1z|refine dqz ?_ (Aside0.o (by assumption)))|exact HB.o)):p:=h
theorem bk_ {p:Prop} (h:p:=by (with_reducible repeat (first|refine doz ?_ _|refine c3z ?_|refine aPz ?_ _));exact Aside0.o (by assumption)):p:=h
theorem bp3_0 {w:World} {g:Nat} {t:TypeId} {x0 x1 x2 u:Value} (h:w.heap[g]?=some (.cells #[x0,x1,x2] t (0,0))):(w.setCell ⟨g,0,none⟩ u).heap[g]?=some (.cells #[u,x1,x2] t (0,0)):=coz h 0 u rfl
theorem bp3_1 {w:World} {g:Nat} {t:TypeId} {x0 x1 x2 u:Value} (h:w.heap[g]?=some (.cells #[x0,x1,x2] t (0,0))):(w.setCell ⟨g,1,none⟩ u).heap[g]?=some (.cells #[x0,u,x2] t (0,0)):=coz h 1 u rfl
theorem bp3_2 {w:World} {g:Nat} {t:TypeId} {x0 x1 x2 u:Value} (h:w.heap[g]?=some (.cells #[x0,x1,x2] t (0,0))):(w.setCell ⟨g,2,none⟩ u).heap[g]?=some (.cells #[x0,x1,u] t (0,0)):=coz h 2 u rfl
theorem bp5_0 {w:World} {g:Nat} {t:TypeId} {x0 x1 x2 x3 x4 u:Value} (h:w.heap[g]?=some (.cells #[x0,x1,x2,x3,x4] t (0,0))):(w.setCell ⟨g,0,none⟩ u).heap[g]?=some (.cells #[u,x1,x2,x3,x4] t (0,0)):=coz h 0 u rfl
theorem bp5_1 {w:World} {g:Nat} {t:TypeId} {x0 x1 x2 x3 x4 u:Value} (h:w.heap[g]?=some (.cells #[x0,x1,x2,x3,x4] t (0,0))):(w.setCell ⟨g,1,none⟩ u).heap[g]?=some (.cells #[x0,u,x2,x3,x4] t (0,0)):=coz h 1 u rfl
theorem bp5_2 {w:World} {g:Nat} {t:TypeId} {x0 x1 x2 x3 x4 u:Value} (h:w.heap[g]?=some (.cells #[x0,x1,x2,x3,x4] t (0,0))):(w.setCell ⟨g,2,none⟩ u).heap[g]?=some (.cells #[x0,x1,u,x3,x4] t (0,0)):=coz h 2 u rfl
theorem bp5_3 {w:World} {g:Nat} {t:TypeId} {x0 x1 x2 x3 x4 u:Value} (h:w.heap[g]?=some (.cells #[x0,x1,x2,x3,x4] t (0,0))):(w.setCell ⟨g,3,none⟩ u).heap[g]?=some (.cells #[x0,x1,x2,u,x4] t (0,0)):=coz h 3 u rfl
theorem bp5_4 {w:World} {g:Nat} {t:TypeId} {x0 x1 x2 x3 x4 u:Value} (h:w.heap[g]?=some (.cells #[x0,x1,x2,x3,x4] t (0,0))):(w.setCell ⟨g,4,none⟩ u).heap[g]?=some (.cells #[x0,x1,x2,x3,u] t (0,0)):=coz h 4 u rfl
theorem kb_ {p:Prop} (h:p:=by (with_reducible repeat (first|refine doz ?_ _|refine c3z ?_|refine aPz ?_ _|refine bHz ?_ (Aside0.o (by assumption)) _|apply bp3_0|apply bp3_1|apply bp3_2|apply bp5_0|apply bp5_1|apply bp5_2|apply bp5_3|apply bp5_4));with_reducible exact Aside0.o (by assumption)):p:=h
theorem ar_ {p:Prop} (h:p:=by (try simp only [List.map_toArray,List.map_cons,List.map_nil]);first|done|rfl|(simp only [List.length_drop,List.length_take];rfl)):p:=h
theorem am_ {p:Prop} (h:p:=by simp only [List.map_toArray,List.map_cons,List.map_nil];rfl):p:=h
theorem as_ {p:Prop} (h:p:=by first|(with_reducible assumption)|assumption):p:=h
theorem er_ {p:Prop} (h:p:=by first|rfl|(simp [cIz,cJz] <;>rfl)|(simp [*,cIz,cJz] <;>rfl)):p:=h
theorem sd_ {p:Prop} (h:p:=by first|rfl|(simp;done)|(simp [*];done)):p:=h
theorem dn_ {p:Prop} (h:p:=by repeat (first|exact Drawn0.refl _|apply Drawn0.step)):p:=h
theorem nl_ {p:Prop} (h:p:=by first|exact Kd.S_nil _ _ _ _ _|exact Kd.N_nil _ _ _ _ _|exact Kd.V_nil _ _ _ _ _|exact Kd.Q_nil _ _ _ _ _|exact Kd.R_nil _ _ _ _ _):p:=h
theorem bc3_ {w:World} {g:Nat} {t:TypeId} {x0 x1 x2:Value} (h:w.heap[g]?=some (.cells #[x0,x1,x2] t (0,0))):w.cell? ⟨g,0,none⟩=some x0/\w.frozen? ⟨g,0,none⟩=false/\w.cell? ⟨g,1,none⟩=some x1/\w.frozen? ⟨g,1,none⟩=false/\w.cell? ⟨g,2,none⟩=some x2/\w.frozen? ⟨g,2,none⟩=false:=⟨(abz h 0).trans rfl,bbz h 0,(abz h 1).trans rfl,bbz h 1,(abz h 2).trans rfl,bbz h 2⟩
theorem bc4_ {w:World} {g:Nat} {t:TypeId} {x0 x1 x2 x3:Value} (h:w.heap[g]?=some (.cells #[x0,x1,x2,x3] t (0,0))):w.cell? ⟨g,0,none⟩=some x0/\w.frozen? ⟨g,0,none⟩=false/\w.cell? ⟨g,1,none⟩=some x1/\w.frozen? ⟨g,1,none⟩=false/\w.cell? ⟨g,2,none⟩=some x2/\w.frozen? ⟨g,2,none⟩=false/\w.cell? ⟨g,3,none⟩=some x3/\w.frozen? ⟨g,3,none⟩=false:=⟨(abz h 0).trans rfl,bbz h 0,(abz h 1).trans rfl,bbz h 1,(abz h 2).trans rfl,bbz h 2,(abz h 3).trans rfl,bbz h 3⟩
theorem bc5_ {w:World} {g:Nat} {t:TypeId} {x0 x1 x2 x3 x4:Value} (h:w.heap[g]?=some (.cells #[x0,x1,x2,x3,x4] t (0,0))):w.cell? ⟨g,0,none⟩=some x0/\w.frozen? ⟨g,0,none⟩=false/\w.cell? ⟨g,1,none⟩=some x1/\w.frozen? ⟨g,1,none⟩=false/\w.cell? ⟨g,2,none⟩=some x2/\w.frozen? ⟨g,2,none⟩=false/\w.cell? ⟨g,3,none⟩=some x3/\w.frozen? ⟨g,3,none⟩=false/\w.cell? ⟨g,4,none⟩=some x4/\w.frozen? ⟨g,4,none⟩=false:=⟨(abz h 0).trans rfl,bbz h 0,(abz h 1).trans rfl,bbz h 1,(abz h 2).trans rfl,bbz h 2,(abz h 3).trans rfl,bbz h 3,(abz h 4).trans rfl,bbz h 4⟩
theorem bb_ {W w w1 : World} {g : Nat} {o : Obj} (h : Aside0 (W.heap[g]? = some o)) (hb : Below w.heap.size w w1)
  (h2:W.heap[g]?=some o->w.heap[g]?=some o:=by intro hx;(with_reducible repeat (first|refine doz ?_ _|refine c3z ?_|refine aPz ?_ _));exact hx):Aside0 (w1.heap[g]?=some o):=⟨aNz (h2 h.o) hb⟩
theorem hs_ {a b w w1 : World} (_HB : Aside0 (Below a.heap.size a b)) (hb : Below w.heap.size w w1)
  (h:Below a.heap.size a w:=by repeat (first|(with_reducible first|exact HB.o|apply aoz|apply a2z|apply b1z|refine dqz ?_ (Aside0.o (by assumption)))|exact HB.o)):Aside0 (Below a.heap.size a w1):=⟨cGz h hb⟩
theorem ag_ {n:Nat} {a b:World} (_HB:Aside0 (Below n a b)) (g:Nat) (h:n<=g:=by rw [hg];exact (adz bl_)):Aside0 (n<=g):=⟨h⟩
theorem n1_ {W:World} {g:Nat} {o:Obj} (_h:Aside0 (W.heap[g]?=some o)) (g':Nat) (h:g≠g':=by rw [hg];exact Nat.ne_of_lt (aUz bk_)):Aside0 (g≠g'):=⟨h⟩
theorem n2_ {W:World} {g:Nat} {o:Obj} (_h:Aside0 (W.heap[g]?=some o)) (g':Nat) (h:g'≠g:=by rw [hg];exact Nat.ne_of_gt (aUz bk_)):Aside0 (g'≠g):=⟨h⟩
theorem ob_ {α β:Type} {o:Option α} {f:α->Option β} {b:β} (h:o.bind f=some b): ∃a,Aside0 (o=some a)/\f a=some b:=by
 obtain ⟨a,h1,h2⟩:=Option.bind_eq_some_iff.1 h;exact ⟨a,⟨h1⟩,h2⟩
theorem xd_ {p q:Prop} (x:q) (h:q->p:=by intro hx;(with_reducible repeat (first|apply Kd.N_alloc|apply Kd.N_drewN|apply Kd.N_drew|apply Kd.dzz|apply Kd.dAz|apply Kd.dGz|apply Kd.c4z|apply Kd.dxz|apply Kd.cBz|apply Kd.S_alloc|apply Kd.S_drewN|apply Kd.S_drew|refine Kd.cez ?_ _|refine Kd.bEz ?_ _|refine Kd.cpz ?_));exact hx):p:=h x
section
variable {P : Program} {ops_ : Array Oper} {Q : Exit -> Act -> World -> Prop} {rest : List Oper} {o : Oper} {a : Act} {W : World}
theorem bx_ (N : Tmp) (cs : Array Value) (t : TypeId)
  (h: ∀g,g=W.heap.size-> ∀w1,w1.heap[g]?=some (.cells cs t (0,0))->Below W.heap.size W w1->wpList P ops_ Q rest (a.put o.dst (.pointer (some ⟨g,0,none⟩))) w1)
  (hd:o.dst=some N:=by rfl) (hgd:o.guard=none:=by rfl)
  (hrun:(execOp a.eval o).run P W= .ok (.value (.pointer (some ⟨W.heap.size,0,none⟩))) (W.alloc (.cells cs t (0,0))):=by first|(go_simp;done)|(go_simp;rfl)):wpList P ops_ Q (o::rest) a W:=
 cgz hgd hd hrun h
theorem gl_ (N : Option Tmp) {f : FuncId} {fn : Func} (hf : P.funcs[f]? = some fn) (args : Array Value) {xs : Array Operand} {ts : Array TypeId}
  (h:Calls P f args W fun e w'=> ∃v,e= .returned v/\wpList P ops_ Q rest (a.put N v) w')
  (hd:o.dst=N:=by rfl) (hg:o.guard=none:=by rfl) (hname:(fn.name== "runtime.NumGoroutine")=false:=by kernel_rfl) (hb:fn.body.isSome=true:=by rfl)
  (hop:o.op= .call { callee:= .value (.func f),args:=xs,argTypes:=ts } :=by rfl)
  (hargs:xs.map a.eval=args:=by (try simp only [List.map_toArray,List.map_cons,List.map_nil]);first|done|rfl|(simp only [List.length_drop,List.length_take];rfl)):wpList P ops_ Q (o::rest) a W:=
 goesL_ N hd hg hf hname hb args hop hargs h
end
section
variable {α : Type} {d : Kd α} {e base : Nat} {ok ok' : Nat -> Prop} {w w1 : World} {v : Value} {xs : List α}
theorem nm_ (h:Aside0 (d.N e w base ok v xs)) (hok: ∀k,ok k->ok' k:=by intro _ hk;first|exact hk|exact trivial|((try simp only [and_assoc] at hk);(repeat (have h_:=hk.1;replace hk:=hk.2));((repeat' apply And.intro)<;>first|assumption|exact trivial|(simp [Value.ownBlock];done)))) (hw:d.N e w base ok' v xs->d.N e w1 base ok' v xs:=by intro hx;(with_reducible repeat (first|apply Kd.N_alloc|apply Kd.N_drewN|apply Kd.N_drew));exact hx):d.N e w1 base ok' v xs:=hw (Kd.b2z h.o hok)
theorem vm_ (h:Aside0 (d.V e w base ok v xs)) (hok: ∀k,ok k->ok' k:=by intro _ hk;first|exact hk|exact trivial|((try simp only [and_assoc] at hk);(repeat (have h_:=hk.1;replace hk:=hk.2));((repeat' apply And.intro)<;>first|assumption|exact trivial|(simp [Value.ownBlock];done)))) (hw:d.V e w base ok' v xs->d.V e w1 base ok' v xs:=by intro hx;(with_reducible repeat (first|apply Kd.dzz|apply Kd.dAz|apply Kd.dGz));exact hx):d.V e w1 base ok' v xs:=hw (Kd.dFz h.o hok)
theorem rm_ (h:Aside0 (d.R e w base ok v xs)) (hok: ∀k,ok k->ok' k:=by intro _ hk;first|exact hk|exact trivial|((try simp only [and_assoc] at hk);(repeat (have h_:=hk.1;replace hk:=hk.2));((repeat' apply And.intro)<;>first|assumption|exact trivial|(simp [Value.ownBlock];done)))) (hw:d.R e w base ok' v xs->d.R e w1 base ok' v xs:=by intro hx;(with_reducible repeat (first|apply Kd.c4z|apply Kd.dxz|apply Kd.cBz));exact hx):d.R e w1 base ok' v xs:=hw (Kd.aKz h.o hok)
theorem sm_ (h:Aside0 (d.S e w base ok v xs)) (hok: ∀k,ok k->ok' k:=by intro _ hk;first|exact hk|exact trivial|((try simp only [and_assoc] at hk);(repeat (have h_:=hk.1;replace hk:=hk.2));((repeat' apply And.intro)<;>first|assumption|exact trivial|(simp [Value.ownBlock];done)))) (hw:d.S e w base ok' v xs->d.S e w1 base ok' v xs:=by intro hx;(with_reducible repeat (first|apply Kd.S_alloc|apply Kd.S_drewN|apply Kd.S_drew));exact hx):d.S e w1 base ok' v xs:=hw (Kd.cPz h.o hok)
end
theorem ig_ {α:Type} {c:Prop} {h:Decidable c} {A X R:α} (H:(if c then A else X)=R) (hx: ¬X=R:=by simp):c/\A=R:=by
 by_cases hc:c
 ·rw [if_pos hc] at H;exact ⟨hc,H⟩
 ·rw [if_neg hc] at H;exact absurd H hx
theorem ih_ {α:Type} {c:Prop} {h:Decidable c} {A X R:α} (H:(if c then A else X)=R) (hx: ¬X=R:=by simp):decide c=true/\A=R:=⟨decide_eq_true (ig_ H hx).1,(ig_ H hx).2⟩
theorem ij_ {α:Type} {c:Prop} {h:Decidable c} {A X R:α} (H:(if c then A else X)=R) (hx: ¬X=R:=by simp):Aside0 c/\A=R:=⟨⟨(ig_ H hx).1⟩,(ig_ H hx).2⟩
theorem dd_ {p:Prop} (h:p:=by first|exact ⟨rfl,_,World.drewN_drewN _ _ _⟩|exact ⟨rfl,_,Eq.trans (World.drewN_drewN _ _ _) (congrArg (World.drewN _) (Nat.add_assoc _ _ _))⟩):p:=h
theorem ix_ {k:IntKind} {W:World} {A:Option Addr} {n:Nat} {xs:List Int} (h:(Kd.int k).C W A n xs) (i:Int) (p:decide (0<=i)=true) (q:decide (i<(n:Int))=true): ∃ad,A=some ad/\W.cell? (ad.add i.toNat)=some (.int k (rd xs i))/\(0<=i)=True/\(i<(n:Int))=True:=by
 obtain ⟨ad,e,c⟩:=Kd.ehz h i (of_decide_eq_true p) (of_decide_eq_true q);exact ⟨ad,e,c,eq_true (of_decide_eq_true p),eq_true (of_decide_eq_true q)⟩
theorem iy_ {k:IntKind} {w W:World} {A:Option Addr} {n:Nat} {xs:List Int} (h:(Kd.int k).C w A n xs) (HB:Aside0 (Below w.heap.size w W)) (i:Int) (p:decide (0<=i)=true) (q:decide (i<(n:Int))=true): ∃ad,A=some ad/\W.cell? (ad.add i.toNat)=some (.int k (rd xs i))/\(0<=i)=True/\(i<(n:Int))=True:=by
 obtain ⟨ad,e,c,h1,h2⟩:=ix_ h i p q;exact ⟨ad,e,(HB.o.cell (World.block_lt_of_cell? w _ c)).trans c,h1,h2⟩
theorem Za {p:Prop} (h:p):Aside0 p:=⟨h⟩
theorem Zb {a b:Prop} (h:a) (k:b):a/\b:=⟨h,k⟩
theorem Zc {p:Prop} [Decidable p] (h:decide p=true):p:=of_decide_eq_true h
theorem Zd {p:Prop} [Decidable p] (h:p):decide p=true:=decide_eq_true h
theorem Ze {p:Prop} [Decidable p] (h: ¬p):decide p=false:=decide_eq_false h
theorem Zf {α:Type} {l:List α} {i:Nat} (h:i<l.length):l[i]?=some l[i] :=List.getElem?_eq_getElem h
theorem Zg {α:Type} (l:List α) (i:Nat) (a:α):l.toArray.setIfInBounds i a=(l.set i a).toArray:=List.setIfInBounds_toArray l i a
theorem Zh {α:Type} {x:α} {xs:List α} {a:α} :(x::xs).set 0 a=a::xs:=rfl
theorem Zi {α:Type} {x:α} {xs:List α} {n:Nat} {a:α} :(x::xs).set (n+1) a=x::xs.set n a:=rfl
theorem Zj (w:World) (a:Addr) {u:Value} (h:w.cell? a=some u):a.block<w.heap.size:=World.block_lt_of_cell? w a h
theorem Zk {α:Type} {l:List α} {i:Nat} {a:α} (h:l[i]?=some a): ∃h:i<l.length,l[i] =a:=List.getElem?_eq_some_iff.1 h
theorem Zl {α β:Type} (a:α) (f:α->Option β):(some a).bind f=f a:=rfl
theorem Zm {α:Type} {l:List α} {i:Nat} {a:α} :l.getD i a=l[i]?.getD a:=List.getD_eq_getElem?_getD
theorem Zn {α:Type} {a b:α} (h:some a=some b):a=b:=Option.some.inj h
theorem Zo {α:Type} {l:List α} {i:Nat} {a:α} (h:l[i]?=some a):a∈l:=List.mem_of_getElem? h
theorem Zp {n m k:Nat} (h:n<m) (g:m<=k):n<k:=Nat.lt_of_lt_of_le h g
theorem Zq {α:Type} [BEq α] [LawfulBEq α] {a b:α} (h:a≠b):(a==b)=false:=beq_eq_false_iff_ne.mpr h
theorem Zr {b:Bool} (h:b≠true):b=false:=Bool.eq_false_iff.mpr h
theorem Zt {n m k:Nat} (h:n<=m) (g:m<=k):n<=k:=Nat.le_trans h g
theorem Zu (n:Nat):(n:Int).toNat=n:=Int.toNat_natCast n
theorem Zv (n:Nat):n<=n:=Nat.le_refl n
theorem Zw (n:Nat) (w:World):Below n w w:=Below.refl n w
theorem Zx {α:Type} (a b:α):(some a=some b)=(a=b):=Option.some.injEq a b
theorem Zy {α β:Type} (a:α) (b:β) (c:α) (d:β):((a,b)=(c,d))=(a=c/\b=d):=Prod.mk.injEq a b c d
theorem Zz {p:Prop} (h:p):p=True:=eq_true h
theorem Ya {c:Prop} {h:Decidable c} (hc:c) {α:Sort _} {t e:α} :ite c t e=t:=if_pos hc
theorem Yb {c:Prop} {h:Decidable c} (hc: ¬c) {α:Sort _} {t e:α} :ite c t e=e:=if_neg hc
theorem Yc {α:Type} [BEq α] [LawfulBEq α] {a b:α} (h:a=b):(a !=b)=false:=bne_eq_false_iff_eq.mpr h
theorem Yd {α:Type} [BEq α] [LawfulBEq α] {a b:α} (h:a≠b):(a !=b)=true:=bne_iff_ne.mpr h
theorem Ye {α:Type} [BEq α] [LawfulBEq α] {a b:α} (h:a=b):(a==b)=true:=beq_iff_eq.mpr h
theorem Yg {α:Type} (x:Option α):LeO x x:=LeO.refl x
theorem Yh {α:Type} (x:Option α):LeO none x:=LeO.none x
theorem Yi {α:Type} {c:Prop} [Decidable c] {a a' b b':Option α} (h1:LeO a a') (h2:LeO b b'):LeO (if c then a else b) (if c then a' else b'):=LeO.ite h1 h2
theorem Yj {α β:Type} {a a':Option α} {f f':α->Option β} (h:LeO a a') (g: ∀x,LeO (f x) (f' x)):LeO (a.bind f) (a'.bind f'):=LeO.bind h g
theorem Yf {a b:Prop} (h:a) (k: ¬a):b:=absurd h k
end Go.Proofs.Xc
end
section
namespace Go.Proofs.Xc
open Go.RowKit Go.Proofs.Pw Go.Proofs.Pl Go.Proofs.Pm Tryz
attribute [local go_sem] a7z a8z bgz bhz aVz aWz a9z baz
def aSz.f (a0:Int):Option (ByteArray×Int×Int×Int×Int×Bool):=if a0=1 then (some ((⟨#[106,118]⟩:ByteArray),8,285,106,4,true)) else (if a0=2 then (some ((⟨#[106,99]⟩:ByteArray),16,69643,106,4,true)) else (if a0=3 then (some ((⟨#[105,114]⟩:ByteArray),8,285,105,3,true)) else (if a0=4 then (some ((⟨#[105,99]⟩:ByteArray),8,285,105,4,true)) else (if a0=5 then (some ((⟨#[98,98]⟩:ByteArray),8,285,98,4,true)) else (if a0=6 then (some ((⟨#[107,112]⟩:ByteArray),8,285,112,4,true)) else (some ((⟨#[]⟩:ByteArray),0,0,0,0,false)))))))
theorem aSz.calls (a0:Int) (r1:ByteArray) (r2 r3 r4 r5:Int) (r6:Bool) (w:World) (h:aSz.f a0=some (r1,r2,r3,r4,r5,r6)):
 Calls prog 50 #[.int .i64 a0] w fun e w'=>e= .returned (.tuple #[.agg #[.string r1, .int .i64 r2, .int .u32 r3, .int .u8 r4, .int .i64 r5], .bool r6])/\Below w.heap.size w w':=by
 have g0:=underlying79;have HB:=Za (Zw w.heap.size w);have HH:=Za h;clear h;go_enter func50,ntmps50
 go_wp2_with (first|((with_reducible refine aTz (N:=2) rfl ?_);refine cgz ?hg (N:=2) ?hd (cs:= #[.string (⟨#[]⟩:ByteArray), .int .i64 0, .int .u32 0, .int .u8 0, .int .i64 0]) (t:=79) ?hr ?_;(case hd=>rfl);(case hg=>rfl);(case hr=>first|(go_simp;done)|(go_simp;rfl));intro b0 hg w3 d0 hb;have n_:=Zb (hs_ HB hb) (Zb (Za (d0)) (Zb (ag_ HB b0) (ag_ HB b0)));clear HB;obtain ⟨HB,c0,e0,f0⟩:=n_;clear hb d0 hg;obtain ⟨_,_,_,_,_,_,_,_,_,_⟩:=bc5_ c0.o))
 all_goals
  have H:=HH.o;unfold aSz.f at H;refine bodyPost_ret (results_ct rfl _ _ b0 79 _ (0,0) _ rfl (by first|exact bp5_4 (bp5_3 (bp5_2 (bp5_1 (bp5_0 c0.o))))|exact c0.o) underlying79 rfl kr_) rfl ?_;refine ⟨?_,bl_⟩
  simp_all
 all_goals (obtain ⟨rfl,rfl,rfl,rfl,rfl,rfl⟩:=H;simp)
def bjz.l0:Nat->List (List Int)->Int->ByteArray->Int->Int->Int->Int->Option (Bool)
 |0,_,_,_,_,_,_,_=>none
 |k+1,x1,x7,x136000,x136001,x136002,x136003,x136004=>if x7<(x1.length:Int) then (if 0<=x7 then (if 0<(x1.length:Int) then (if ((rd_L1 x1 x7).length:Int)=((rd_L1 x1 0).length:Int) then (if x136001=0 then (none) else (if (Int.tmod (wrap64 (8*((rd_L1 x1 x7).length:Int))) x136001)=0 then (bjz.l0 k x1 (wrap64 (x7+1)) x136000 x136001 x136002 x136003 x136004) else (some false))) else (some false)) else (none)) else (none)) else (some true)
def bjz.f (k:Nat) (a0_0 a0_1 a0_2:Int) (l1:List (List Int)):Option (Bool):=(aSz.f a0_0).bind fun bt129=>(bjz.l0 k l1 0 bt129.1 bt129.2.1 bt129.2.2.1 bt129.2.2.2.1 bt129.2.2.2.2.1)
theorem bjz.calls (k:Nat) (J0 R0 U0:Int) (A1:Option Addr) (c1:Nat) (l1:List (List Int)) (r:Bool) (w:World) (T1:Kd.C (Kd.slice 5 (Kd.int .u8)) w A1 l1.length l1) (b2:l1.length<=c1) (h:bjz.f k J0 R0 U0 l1=some r):
  Calls prog 49 #[.agg #[.int .i64 J0, .int .i64 R0, .int .i64 U0], .slice A1 l1.length c1] w fun e w'=>e= .returned (.bool r)/\Below w.heap.size w w':=by
 have i2:=underlying23;have j2:=underlying79;have V0:=Za T1;have k2:=Za b2;clear T1 b2;have HB:=Za (Zw w.heap.size w);have H:=h;clear h;unfold bjz.f at H;obtain ⟨⟨Z0,u0,f1,m1,y1,M1⟩,A3,H⟩:=ob_ H
 (try dsimp only at H)
 have H':=Za H;clear H;go_enter func49,ntmps49
 go_wp2_with (first|((with_reducible refine aTz (N:=2) rfl ?_);(try (refine aYz (by rfl) ?_;dsimp only));refine bx_ 2 #[.int .i64 J0, .int .i64 R0, .int .i64 U0] 23 ?_;intro G0 hg w4 P0 hb;have n_:=Zb (hs_ HB hb) (Zb (Za (P0)) (Zb (ag_ HB G0) (ag_ HB G0)));clear HB;obtain ⟨HB,i0,V1,P1⟩:=n_;clear hb P0 hg;obtain ⟨t1,r1,e1,b1,B1,a1⟩:=bc3_ i0.o)|(go_at_call 50;(with_reducible refine (aSz.calls J0 Z0 u0 f1 m1 y1 M1 _ A3.o).mono ?_);rintro e w6 ⟨rfl,hb⟩;have n_:=Zb (bb_ i0 hb) (hs_ HB hb);clear i0 HB;obtain ⟨i0,HB⟩:=n_;(try clear hb))|((with_reducible refine aTz (N:=5) rfl ?_);(try (refine aYz (by rfl) ?_;dsimp only));refine cgz ?hg (N:=5) ?hd (cs:= #[.string (⟨#[]⟩:ByteArray), .int .i64 0, .int .u32 0, .int .u8 0, .int .i64 0]) (t:=79) ?hr ?_;(case hd=>rfl);(case hg=>rfl);(case hr=>first|(go_simp;done)|(go_simp;rfl));intro y0 hg w7 P0 hb;have n_:=Zb (bb_ i0 hb) (Zb (hs_ HB hb) (Zb (Za (P0)) (Zb (ag_ HB y0) (Zb (ag_ HB y0) (Zb (n1_ i0 y0) (n2_ i0 y0))))));clear i0 HB;obtain ⟨i0,HB,B0,W1,c2,n0,o0⟩:=n_;clear hb P0 hg;have g2:=o0.o;have f2:=n0.o;obtain ⟨q1,i1,C1,o1,v1,d1,p1,X0,g1,u1⟩:=bc5_ B0.o))
 go_loopg [7] k (fun kq v7 w'=> ∃(c0:Int),v7= .int .i64 c0/\Aside0 (bjz.l0 kq l1 c0 Z0 u0 f1 m1 y1=some r)/\Aside0 (kq<=k)/\Aside0 (w'.heap[G0]?=some (.cells #[.int .i64 J0, .int .i64 R0, .int .i64 U0] 23 (0,0)))/\Aside0 (w'.heap[y0]?=some (.cells #[.string Z0, .int .i64 u0, .int .u32 f1, .int .u8 m1, .int .i64 y1] 79 (0,0)))/\Aside0 (Below w.heap.size w w'))
 case atStart=>exact ⟨(0),sd_,H',⟨Zv _⟩,⟨kb_⟩,⟨kb_⟩,⟨bl_⟩⟩
 clear H';clear t1 e1 B1 q1 C1 v1 p1 g1 r1 b1 a1 i1 o1 d1 X0 u1;obtain ⟨c0,rfl,HA,e2,i0,B0,HB⟩:=hrel;rcases gk with _|k1
 ·exact Yf HA.o (by simp [bjz.l0])
 have H:=HA.o;clear HA;simp only [bjz.l0] at H;by_cases D1:c0<(l1.length:Int)
 rotate_left
 ·rw [Yb D1] at H;have J1:=Ze D1;clear D1;obtain rfl:=Zn H;go_wp2
  repeat (go_quiet (fail);try go_wp2)
  go_ret;exact ⟨er_,bl_⟩
 rw [Ya D1] at H;have J1:=Zd D1;clear D1;obtain ⟨U1,H⟩:=ih_ H;obtain ⟨Z1,H⟩:=ig_ H;have a2:=Zd Z1;have d2:decide (0<l1.length)=true:=Zd (by omega);clear Z1;by_cases N0:((rd_L1 l1 c0).length:Int)=((rd_L1 l1 0).length:Int)
 rotate_left
 ·rw [Yb N0] at H;have G1:(((rd_L1 l1 c0).length:Int)==((rd_L1 l1 0).length:Int))=false:=Zq N0;have I1:(((rd_L1 l1 c0).length:Int) !=((rd_L1 l1 0).length:Int))=true:=Yd N0
  have F1:((rd_L1 l1 c0).length==(rd_L1 l1 0).length)=false:=by first|simpa using N0|(simp at N0|-;omega)
  obtain rfl:=Zn H;have q0:0<=(c0:Int):=Zc as_;have p0:c0<(l1.length:Int):=Zc as_;obtain ⟨v0,L0,M0,H0,b0,f0,g0⟩:=at_L1 V0.o c0 q0 p0;cases H0
  replace b0:=(HB.o.cell (Zj w _ b0)).trans b0;have F0:=Za g0;have C0:=Za f0;clear g0 f0;replace q0:=Zz q0;replace p0:=Zz p0;have t0:0<=(0:Int):=(by omega);have r0:0<(l1.length:Int):=Zc as_;obtain ⟨w0,K0,I0,Q0,a0,h0,e0⟩:=at_L1 V0.o 0 t0 r0;obtain rfl:v0=w0:=(by injection Q0);have W0:(0<l1.length)=True:=Zz (by omega)
  (try rw [show ((0:Int)).toNat=0 from rfl] at a0)
  (try rw [Addr.add_zero'] at a0)
  replace a0:=(HB.o.cell (Zj w _ a0)).trans a0;have E0:=Za e0;have D0:=Za h0;clear e0 h0;replace t0:=Zz t0;replace r0:=Zz r0;go_wp2
  repeat (go_quiet (fail);try go_wp2)
  go_ret;exact ⟨er_,bl_⟩
 rw [Ya N0] at H;have G1:(((rd_L1 l1 c0).length:Int)==((rd_L1 l1 0).length:Int))=true:=Ye N0;have I1:(((rd_L1 l1 c0).length:Int) !=((rd_L1 l1 0).length:Int))=false:=Yc N0
 have F1:((rd_L1 l1 c0).length==(rd_L1 l1 0).length)=true:=by first|simpa using N0|(simp at N0|-;omega)
 clear N0;by_cases K1:u0=0
 ·rw [Ya K1] at H;exact Yf H (by simp)
 ·rw [Yb K1] at H;have Q1:(u0==0)=false:=Zq K1;have O1:(u0 !=0)=true:=Yd K1;by_cases s1:(Int.tmod (wrap64 (8*((rd_L1 l1 c0).length:Int))) u0)=0
  rotate_left
  ·rw [Yb s1] at H;have H1:((Int.tmod (wrap64 (8*((rd_L1 l1 c0).length:Int))) u0)==0)=false:=Zq s1;have E1:((Int.tmod (wrap64 (8*((rd_L1 l1 c0).length:Int))) u0) !=0)=true:=Yd s1;obtain rfl:=Zn H;have q0:0<=(c0:Int):=Zc as_;have p0:c0<(l1.length:Int):=Zc as_;obtain ⟨v0,L0,M0,H0,b0,f0,g0⟩:=at_L1 V0.o c0 q0 p0;cases H0
   replace b0:=(HB.o.cell (Zj w _ b0)).trans b0;have F0:=Za g0;have C0:=Za f0;clear g0 f0;replace q0:=Zz q0;replace p0:=Zz p0;have t0:0<=(0:Int):=(by omega);have r0:0<(l1.length:Int):=Zc as_;obtain ⟨w0,K0,I0,Q0,a0,h0,e0⟩:=at_L1 V0.o 0 t0 r0;obtain rfl:v0=w0:=(by injection Q0);have W0:(0<l1.length)=True:=Zz (by omega)
   (try rw [show ((0:Int)).toNat=0 from rfl] at a0)
   (try rw [Addr.add_zero'] at a0)
   replace a0:=(HB.o.cell (Zj w _ a0)).trans a0;have E0:=Za e0;have D0:=Za h0;clear e0 h0;replace t0:=Zz t0;replace r0:=Zz r0;have z0:0<=(c0:Int):=Zc as_;have A0:c0<(l1.length:Int):=Zc as_;obtain ⟨O0,Y0,n1,j1,d0,j0,k0⟩:=at_L1 V0.o c0 z0 A0;obtain rfl:v0=O0:=(by injection j1);replace d0:=(HB.o.cell (Zj w _ d0)).trans d0;have T0:=Za k0;have S0:=Za j0;clear k0 j0;replace z0:=Zz z0;replace A0:=Zz A0;have z1:=Zn (b0.symm.trans d0);injection z1 with z1 L1 N1
   subst z1;subst N1;clear L1;have S1:=o0.o;have X1:=n0.o;obtain ⟨_,_,_,_,_,_,_,_,_,_⟩:=bc5_ B0.o;go_wp2
   repeat (go_quiet (fail);try go_wp2)
   go_ret;exact ⟨er_,bl_⟩
  rw [Ya s1] at H;have H1:((Int.tmod (wrap64 (8*((rd_L1 l1 c0).length:Int))) u0)==0)=true:=Ye s1;have E1:((Int.tmod (wrap64 (8*((rd_L1 l1 c0).length:Int))) u0) !=0)=false:=Yc s1;clear s1;have H':=Za H;clear H;have q0:0<=(c0:Int):=Zc as_;have p0:c0<(l1.length:Int):=Zc as_;obtain ⟨v0,L0,M0,H0,b0,f0,g0⟩:=at_L1 V0.o c0 q0 p0;cases H0
  replace b0:=(HB.o.cell (Zj w _ b0)).trans b0;have F0:=Za g0;have C0:=Za f0;clear g0 f0;replace q0:=Zz q0;replace p0:=Zz p0;have t0:0<=(0:Int):=(by omega);have r0:0<(l1.length:Int):=Zc as_;obtain ⟨w0,K0,I0,Q0,a0,h0,e0⟩:=at_L1 V0.o 0 t0 r0;obtain rfl:v0=w0:=(by injection Q0);have W0:(0<l1.length)=True:=Zz (by omega)
  (try rw [show ((0:Int)).toNat=0 from rfl] at a0)
  (try rw [Addr.add_zero'] at a0)
  replace a0:=(HB.o.cell (Zj w _ a0)).trans a0;have E0:=Za e0;have D0:=Za h0;clear e0 h0;replace t0:=Zz t0;replace r0:=Zz r0;have z0:0<=(c0:Int):=Zc as_;have A0:c0<(l1.length:Int):=Zc as_;obtain ⟨O0,Y0,n1,j1,d0,j0,k0⟩:=at_L1 V0.o c0 z0 A0;obtain rfl:v0=O0:=(by injection j1);replace d0:=(HB.o.cell (Zj w _ d0)).trans d0;have T0:=Za k0;have S0:=Za j0;clear k0 j0;replace z0:=Zz z0;replace A0:=Zz A0;have z1:=Zn (b0.symm.trans d0);injection z1 with z1 L1 N1
  subst z1;subst N1;clear L1;have R1:=o0.o;have Y1:=n0.o;obtain ⟨_,_,_,_,_,_,_,_,_,_⟩:=bc5_ B0.o;go_wp2
  repeat (go_quiet (fail);try go_wp2)
  go_roundg k1
  case measure=>have:=e2.o;omega
  case rel=>exact ⟨(wrap64 (c0+1)),sd_,H',⟨by have:=e2.o;omega⟩,⟨bk_⟩,⟨bk_⟩,⟨bl_⟩⟩
mutual
def aiz.l0:Nat->Int->List (List Int)->Int->Option ((List (List Int)))
 |0,_,_,_=>none
 |k+1,x0,x3,x4=>if x4<x0 then (aiz.j1 k x0 x3 x4 (decide (x0<=20))) else (aiz.j1 k x0 x3 x4 false)
def aiz.j1:Nat->Int->List (List Int)->Int->Bool->Option ((List (List Int)))
 |0,_,_,_,_=>none
 |k+1,x0,x3,x4,x14=>if x14=true then (aiz.l1 k x0 x3 x4 ([] :List Int) 0) else (some x3)
def aiz.l1:Nat->Int->List (List Int)->Int->List Int->Int->Option ((List (List Int)))
 |0,_,_,_,_,_=>none
 |k+1,x0,x3,x4,x5,x6=>if x6<x0 then (if x4=x6 then (if x5.length<17592186044416 then (aiz.l1 k x0 x3 x4 (x5++ [1]) (wrap64 (x6+1))) else (none)) else (if x5.length<17592186044416 then (aiz.l1 k x0 x3 x4 (x5++ [0]) (wrap64 (x6+1))) else (none))) else (if x3.length<5864062014805 then (aiz.l0 k x0 (x3++ [x5]) (wrap64 (x4+1))) else (none))
end
def aiz.f (k:Nat) (a0:Int):Option ((List (List Int))):=aiz.l0 k a0 ([] :List (List Int)) 0
theorem aiz.a6z: ∀k,(∀y0 y1 y2,LeO (aiz.l0 k y0 y1 y2) (aiz.l0 (k+1) y0 y1 y2))/\(∀y0 y1 y2 y3,LeO (aiz.j1 k y0 y1 y2 y3) (aiz.j1 (k+1) y0 y1 y2 y3))/\(∀y0 y1 y2 y3 y4,LeO (aiz.l1 k y0 y1 y2 y3 y4) (aiz.l1 (k+1) y0 y1 y2 y3 y4))
 |0=>⟨fun _ _ _ r h=>by simp [aiz.l0] at h,fun _ _ _ _ r h=>by simp [aiz.j1] at h,fun _ _ _ _ _ r h=>by simp [aiz.l1] at h⟩
 |k+1=>by
  obtain ⟨a0,c0,b0⟩:=aiz.a6z k;refine ⟨?_,?_,?_⟩
  ·intro y0 y1 y2;unfold aiz.l0
   repeat' with_reducible first|apply a0|apply c0|apply b0|apply Yg|apply Yh|apply Yi|refine Yj ?_ fun _=>?_
  ·intro y0 y1 y2 y3;unfold aiz.j1
   repeat' with_reducible first|apply a0|apply c0|apply b0|apply Yg|apply Yh|apply Yi|refine Yj ?_ fun _=>?_
  ·intro y0 y1 y2 y3 y4;unfold aiz.l1
   repeat' with_reducible first|apply a0|apply c0|apply b0|apply Yg|apply Yh|apply Yi|refine Yj ?_ fun _=>?_
theorem aiz.mono: ∀a0 k,LeO (aiz.f k a0) (aiz.f (k+1) a0):=by
 intro a0 k;obtain ⟨b0,d0,c0⟩:=aiz.a6z k;unfold aiz.f
 repeat' with_reducible first|apply b0|apply d0|apply c0|apply Yg|apply Yh|apply Yi|refine Yj ?_ fun _=>?_
theorem aiz.calls (k:Nat) (a0:Int) (r:List (List Int)) (w:World) (h:aiz.f k a0=some r):
  Calls prog 62 #[.int .i64 a0] w fun e w'=> ∃N0:Value,e= .returned (N0)/\Kd.S (Kd.slice 3 (Kd.int .i64)) 57 w' w.heap.size (fun _=>True) N0 r/\Below w.heap.size w w':=by
 have HB:=Za (Zw w.heap.size w);have H:=h;clear h;unfold aiz.f at H;have H':=Za H;clear H;go_enter func62,ntmps62;go_wp2
 go_loopg [3,4] k (fun kq v3 v4 w'=> ∃(f0:List (List Int)) (c0:Int),v4= .int .i64 c0/\Aside0 (aiz.l0 kq a0 f0 c0=some r)/\Aside0 (kq<=k)/\Aside0 (Kd.S (Kd.slice 3 (Kd.int .i64)) 57 w' w.heap.size (fun _=>True) v3 f0)/\Aside0 (Below w.heap.size w w'))
 case atStart=>exact ⟨(([] :List (List Int))),(0),sd_,H',⟨Zv _⟩,⟨nl_⟩,⟨bl_⟩⟩
 clear H';obtain ⟨f0,c0,rfl,HA,n0,b0,HB⟩:=hrel;rcases gk with _|k1
 ·exact Yf HA.o (by simp [aiz.l0])
 have H:=HA.o;clear HA;simp only [aiz.l0] at H;have D0:=Za H;clear H
 go_upto_region 3 with (fail)
 go_cut [14] (fun P0 wc=> ∃(kq:Nat) (h0:Bool),P0= .bool h0/\Aside0 (aiz.j1 kq a0 f0 c0 h0=some r)/\Aside0 (kq<=k1)/\Aside0 (Kd.S (Kd.slice 3 (Kd.int .i64)) 57 wc w.heap.size (fun _=>True) u3 f0)/\Aside0 (Below w.heap.size w wc))
 case first=>
  have H:=D0.o;clear D0;by_cases c3:c0<a0
  ·rw [Ya c3] at H;have E0:=Zd c3;clear c3;have H':=Za H;clear H;go_wp2
   go_meet
   case rel=>exact ⟨_,(decide (a0<=20)),sd_,H',⟨by have:=n0.o;first|omega|exact Zv _⟩,⟨xd_ b0.o⟩,⟨bl_⟩⟩
  ·rw [Yb c3] at H;have E0:=Ze c3;clear c3;have H':=Za H;clear H;go_wp2
   go_meet
   case rel=>exact ⟨_,(false),sd_,H',⟨by have:=n0.o;first|omega|exact Zv _⟩,⟨xd_ b0.o⟩,⟨bl_⟩⟩
 case rest=>
  clear D0;obtain ⟨kq,h0,rfl,HA,o0,b0,HB⟩:=hcut;rcases kq with _|O0
  ·exact Yf HA.o (by simp [aiz.j1])
  have H:=HA.o;clear HA;simp only [aiz.j1] at H;by_cases c4:h0=true
  rotate_left
  ·replace c4:=Zr c4;subst c4;rw [Yb (show¬(false=true) by decide)] at H;obtain rfl:=Zn H;go_wp2;go_ret;exact ⟨_,er_,xd_ b0.o,bl_⟩
  subst c4;rw [Ya rfl] at H;have H':=Za H;clear H;go_wp2
  go_loopg [5,6] O0 (fun kq v5 v6 w'=> ∃(e0:List Int) (d0:Int),v6= .int .i64 d0/\Aside0 (aiz.l1 kq a0 f0 c0 e0 d0=some r)/\Aside0 (kq<=O0)/\Aside0 (Kd.S (Kd.slice 3 (Kd.int .i64)) 57 w' w.heap.size (fun k_=>some k_≠(v5:Value).ownBlock) u3 f0)/\Aside0 (Kd.R (Kd.int .i64) 3 w' w.heap.size (fun _=>True) v5 e0)/\Aside0 (Below w.heap.size w w'))
  case atStart=>exact ⟨(([] :List Int)),(0),sd_,H',⟨Zv _⟩,⟨sm_ b0⟩,⟨nl_⟩,⟨bl_⟩⟩
  clear H';obtain ⟨e0,d0,rfl,HA,p0,b0,g0,HB⟩:=hrel;rcases gk with _|k3
  ·exact Yf HA.o (by simp [aiz.l1])
  have H:=HA.o;clear HA;simp only [aiz.l1] at H;by_cases c5:d0<a0
  rotate_left
  ·rw [Yb c5] at H;have M0:=Ze c5;clear c5;obtain ⟨v0,H⟩:=ij_ H;obtain ⟨L0,j0⟩: ∃y_:List (List Int),y_=(f0++ [e0]):=⟨_,rfl⟩
   first|rw [Zl, <-j0] at H|rw [<-j0] at H
   (try dsimp only at H)
   have y0:=Za j0;clear j0;have H':=Za H;clear H;obtain ⟨z0,t0,F0⟩:=Kd.aQz g0.o;subst F0
   go_wp2_with (first|((with_reducible refine amz (b:= .append) (xs:= #[.tmp 29, .tmp 31]) rfl ?_);at_builtin;refine Kd.bLz (Kd.slice 3 (Kd.int .i64)) (w0:=w) w.heap.size rfl (.tmp 29) (.tmp 31) 68 57 (.slice none 0 0) 24 rfl underlying68 info57 rfl (by decide) (by omega) u3 f0 e0 [.slice z0 e0.length t0] (fun _=>True) (fun k_=>some k_=(.slice z0 e0.length t0:Value).ownBlock) rfl rfl (Kd.M_row (Kd.aKz (Kd.b5z rfl (Kd.aKz (ok':=fun k_=>((fun _=>True)) k_/\some k_≠(u3:Value).ownBlock) (Kd.bqz (g0.o) (Kd.bFz b0.o) (by decide)) (fun k_ hk=>⟨trivial,hk.2⟩))) (fun _ h_=>h_))) (fun k_ Q0=>((Kd.aKz (ok':=fun k_=>((fun _=>True)) k_/\some k_≠(u3:Value).ownBlock) (Kd.bqz (g0.o) (Kd.bFz b0.o) (by decide)) (fun k_ hk=>⟨trivial,hk.2⟩))).1 k_ Q0.symm) (fun _ _=>trivial) (sm_ b0) bl_ (adz bl_) (by have:=v0.o;omega) ?_;intro S0 U0 ho hb hg hat;rw [<-y0.o] at ho;have n_:=Zb (Za (hb)) (Za (ho));clear HB b0 g0;obtain ⟨HB,A0⟩:=n_;clear ho hb hg hat))
   go_roundg k3
   case measure=>have:=n0.o;have:=o0.o;have:=p0.o;omega
   case rel=>exact ⟨(L0),(wrap64 (c0+1)),sd_,H',⟨by have:=n0.o;have:=o0.o;have:=p0.o;omega⟩,⟨xd_ A0.o⟩,⟨bl_⟩⟩
  rw [Ya c5] at H;have M0:=Zd c5;clear c5;by_cases c6:c0=d0
  rotate_left
  ·rw [Yb c6] at H;have K0:(c0==d0)=false:=Zq c6;have J0:(c0 !=d0)=true:=Yd c6;obtain ⟨G0,H⟩:=ij_ H;obtain ⟨I0,k0⟩: ∃y_:List Int,y_=(e0++ [0]):=⟨_,rfl⟩
   first|rw [Zl, <-k0] at H|rw [<-k0] at H
   (try dsimp only at H)
   have u0:=Za k0;clear k0;have H':=Za H;clear H
   go_wp2_with (first|((with_reducible refine amz (b:= .append) (xs:= #[.tmp 25, .tmp 27]) rfl ?_);at_builtin;refine Kd.brz (Kd.int .i64) (w0:=w) w.heap.size rfl (.tmp 25) (.tmp 27) 57 3 (.int .i64 0) 8 rfl underlying57 info3 rfl (by decide) (by omega) u5 e0 0 [.int .i64 0] (fun _=>True) (fun _=>False) rfl rfl rfl (fun _ hk=>hk.elim) (fun _ _=>trivial) (xd_ g0.o) bl_ (adz bl_) (by have:=G0.o;omega) ?_;intro T0 V0 ho hb hg hat;rw [<-u0.o] at ho;have n_:=Zb (Za (Kd.cFz (ok:=(fun _=>True)) (sm_ b0) hg hat)) (Zb (Za (hb)) (Za (ho)));clear b0 HB g0;obtain ⟨b0,HB,q0⟩:=n_;clear ho hb hg hat))
   go_roundg k3
   case measure=>have:=n0.o;have:=o0.o;have:=p0.o;omega
   case rel=>exact ⟨(I0),(wrap64 (d0+1)),sd_,H',⟨by have:=n0.o;have:=o0.o;have:=p0.o;omega⟩,⟨sm_ b0⟩,⟨xd_ q0.o⟩,⟨bl_⟩⟩
  rw [Ya c6] at H;have K0:(c0==d0)=true:=Ye c6;have J0:(c0 !=d0)=false:=Yc c6;clear c6;obtain ⟨H0,H⟩:=ij_ H;obtain ⟨C0,i0⟩: ∃y_:List Int,y_=(e0++ [1]):=⟨_,rfl⟩
  first|rw [Zl, <-i0] at H|rw [<-i0] at H
  (try dsimp only at H)
  have r0:=Za i0;clear i0;have H':=Za H;clear H
  go_wp2_with (first|((with_reducible refine amz (b:= .append) (xs:= #[.tmp 25, .tmp 27]) rfl ?_);at_builtin;refine Kd.brz (Kd.int .i64) (w0:=w) w.heap.size rfl (.tmp 25) (.tmp 27) 57 3 (.int .i64 0) 8 rfl underlying57 info3 rfl (by decide) (by omega) u5 e0 1 [.int .i64 1] (fun _=>True) (fun _=>False) rfl rfl rfl (fun _ hk=>hk.elim) (fun _ _=>trivial) (xd_ g0.o) bl_ (adz bl_) (by have:=H0.o;omega) ?_;intro R0 w8 ho hb hg hat;rw [<-r0.o] at ho;have n_:=Zb (Za (Kd.cFz (ok:=(fun _=>True)) (sm_ b0) hg hat)) (Zb (Za (hb)) (Za (ho)));clear b0 HB g0;obtain ⟨b0,HB,B0⟩:=n_;clear ho hb hg hat))
  go_roundg k3
  case measure=>have:=n0.o;have:=o0.o;have:=p0.o;omega
  case rel=>exact ⟨(C0),(wrap64 (d0+1)),sd_,H',⟨by have:=n0.o;have:=o0.o;have:=p0.o;omega⟩,⟨sm_ b0⟩,⟨xd_ B0.o⟩,⟨bl_⟩⟩
def axz.l0:Nat->Int->Int->Int->Option (Int)
 |0,_,_,_=>none
 |k+1,x0,x3,x4=>if x4<x0 then (axz.l0 k x0 (wrap64 (2*x3)) (wrap64 (x4+1))) else (some x3)
def axz.f (k:Nat) (a0:Int):Option (Int):=axz.l0 k a0 1 0
theorem axz.a6z: ∀k,(∀y0 y1 y2,LeO (axz.l0 k y0 y1 y2) (axz.l0 (k+1) y0 y1 y2))
 |0=>fun _ _ _ r h=>by simp [axz.l0] at h
 |k+1=>by
  have a0:=axz.a6z k
  ·intro y0 y1 y2;unfold axz.l0
   repeat' with_reducible first|apply a0|apply Yg|apply Yh|apply Yi|refine Yj ?_ fun _=>?_
theorem axz.mono: ∀a0 k,LeO (axz.f k a0) (axz.f (k+1) a0):=by
 intro a0 k;have b0:=axz.a6z k;unfold axz.f
 repeat' with_reducible first|apply b0|apply Yg|apply Yh|apply Yi|refine Yj ?_ fun _=>?_
theorem axz.calls (k:Nat) (a0 r:Int) (w:World) (h:axz.f k a0=some r):
  Calls prog 156 #[.int .i64 a0] w fun e w'=>e= .returned (.int .i64 r)/\Drawn0 w w':=by
 have H:=h;clear h;unfold axz.f at H;have H':=Za H;clear H;go_enter func156,ntmps156;go_wp2
 go_loopg [3,4] k (fun kq v3 v4 w'=> ∃(c0:Int) (b0:Int),v3= .int .i64 c0/\v4= .int .i64 b0/\Aside0 (axz.l0 kq a0 c0 b0=some r)/\Aside0 (kq<=k)/\Drawn0 w w')
 case atStart=>exact ⟨(1),(0),sd_,sd_,H',⟨Zv _⟩,dn_⟩
 clear H';obtain ⟨c0,b0,rfl,rfl,HA,e0,⟨m1,rfl⟩⟩:=hrel;rcases gk with _|k1
 ·exact Yf HA.o (by simp [axz.l0])
 have H:=HA.o;clear HA;simp only [axz.l0] at H;by_cases c2:b0<a0
 ·rw [Ya c2] at H;have d0:=Zd c2;clear c2;have H':=Za H;clear H;go_wp2
  go_roundg k1
  case measure=>have:=e0.o;omega
  case rel=>exact ⟨(wrap64 (2*c0)),(wrap64 (b0+1)),sd_,sd_,H',⟨by have:=e0.o;omega⟩,dn_⟩
 ·rw [Yb c2] at H;have d0:=Ze c2;clear c2;obtain rfl:=Zn H;go_wp2;go_ret;exact ⟨sd_,dn_⟩
structure BB (w w':World) (g:Nat):Prop where
 os:w'.os=w.os
 tape:w'.tape=w.tape
 output:w'.output=w.output
 size:w.heap.size<=w'.heap.size
 block: ∀i,i<w.heap.size->i≠g->w'.heap[i]?=w.heap[i]?
theorem BB.of_below {w w':World} (h:Below w.heap.size w w') (g:Nat):BB w w' g:=⟨h.os,h.tape,h.output,h.size,fun i hi _=>h.block i hi⟩
theorem BB.refl (w:World) (g:Nat):BB w w g:=BB.of_below (Zw _ _) g
theorem BB.trans {a b c:World} {g:Nat} (h:BB a b g) (k:BB b c g):BB a c g:=
 ⟨k.os.trans h.os,k.tape.trans h.tape,k.output.trans h.output,Zt h.size k.size,fun i hi hg=>(k.block i (Zp hi h.size) hg).trans (h.block i hi hg)⟩
theorem BB.keep {w w':World} {g:Nat} (h:BB w w' g):dhz w w' g none:=⟨h.size,fun i hi hg _=>h.block i hi hg⟩
theorem BB.below {w0 w w':World} {g:Nat} (h:BB w w' g) (hB:Below w0.heap.size w0 w) (hg:w0.heap.size<=g):Below w0.heap.size w0 w':=
 ⟨h.os.trans hB.os,h.tape.trans hB.tape,h.output.trans hB.output,Zt hB.size h.size,fun i hi=>(h.block i (Zp hi hB.size) (by omega)).trans (hB.block i hi)⟩
theorem BB.drew {a b:World} {g:Nat} (h:BB a b g):BB a b.drew g:=⟨h.os,h.tape,h.output,h.size,h.block⟩
theorem BB.drewN {a b:World} {g:Nat} (h:BB a b g) (n:Nat):BB a (b.drewN n) g:=⟨h.os,h.tape,h.output,h.size,h.block⟩
theorem BB.alloc {a b:World} {g:Nat} (h:BB a b g) (o:Obj):BB a (b.alloc o) g:=h.trans (BB.of_below (aoz (Zw _ _) o) g)
theorem BB.set {a b:World} {g:Nat} (h:BB a b g) (j:Nat) (u:Value):BB a (b.setCell ⟨g,j,none⟩ u) g:=
 ⟨h.os,h.tape,h.output,by simpa using h.size,fun i hi hg=>(Below.heap_setCell b ⟨g,j,none⟩ u i hg).trans (h.block i hi hg)⟩
theorem BB.new {a b:World} {g n:Nat} (h:BB a b g) (hn:a.heap.size<=n) (j:Nat) (u:Value):BB a (b.setCell ⟨n,j,none⟩ u) g:=
 ⟨h.os,h.tape,h.output,by simpa using h.size,fun i hi hg=>(Below.heap_setCell b ⟨n,j,none⟩ u i (by show i≠n;omega)).trans (h.block i hi hg)⟩
def gpN:Nat->Nat
 |0=>1
 |i+1=>xt 128 285 (gpN i)
def expAt:Nat->List Int
 |0=>List.replicate 256 0
 |i+1=>(expAt i).set i (gpN i:Int)
def logAt:Nat->List Int
 |0=>List.replicate 256 0
 |i+1=>(logAt i).set (gpN i) (i:Int)
theorem ezz: ∀i,(expAt i).length=256
 |0=>List.length_replicate
 |i+1=>by rw [expAt,List.length_set,ezz i]
theorem eAz: ∀i,(logAt i).length=256
 |0=>List.length_replicate
 |i+1=>by rw [logAt,List.length_set,eAz i]
theorem gpN_range: ∀i,i<256->1<=gpN i/\gpN i<256:=by decide+kernel
def freshF (wb p:Int):Array Value:= #[.int .i64 wb, .int .u32 p, .int .u32 0, .int .i32 0, .int .u32 0, .slice none 0 0, .slice none 0 0]
def readyF (wb p:Int) (a b:Nat):Array Value:= #[.int .i64 wb, .int .u32 p, .int .u32 1, .int .i32 0, .int .u32 0, .slice (some ⟨a,0,none⟩) 256 256, .slice (some ⟨b,0,none⟩) 256 256]
def Fd (W:World) (g:Nat) (wb p:Int) (S:Nat->Prop):Prop:=
 ¬S g/\(W.heap[g]?=some (.cells (freshF wb p) 172 (0,0))\/
  (wb=8/\p=285/\ ∃a b,W.heap[g]?=some (.cells (readyF wb p a b) 172 (0,0))/\W.heap[a]?=some (.cells (nums .i64 (expAt 255)).toArray 3 (0,0))/\W.heap[b]?=some (.cells (nums .i64 (logAt 255)).toArray 3 (0,0))/\ ¬S a/\ ¬S b))
theorem Fd.lt {W:World} {g:Nat} {wb p:Int} {S:Nat->Prop} (h:Fd W g wb p S):g<W.heap.size:=by
 obtain ⟨-,h|⟨-, -,a,b,h, -⟩⟩:=h
 ·exact aUz h
 ·exact aUz h
theorem Fd.move {W W1:World} {g:Nat} {wb p:Int} {S:Nat->Prop} (h:Fd W g wb p S) (hm: ∀k, ¬S k->k<W.heap.size->W1.heap[k]?=W.heap[k]?):Fd W1 g wb p S:=by
 obtain ⟨hg,h|⟨h8,hp,a,b,h,ha,hb,na,nb⟩⟩:=h
 ·exact ⟨hg, .inl ((hm g hg (aUz h)).trans h)⟩
 ·exact ⟨hg, .inr ⟨h8,hp,a,b,(hm g hg (aUz h)).trans h,(hm a na (aUz ha)).trans ha,(hm b nb (aUz hb)).trans hb,na,nb⟩⟩
theorem Fd.thin {W:World} {g:Nat} {wb p:Int} {S S':Nat->Prop} (h:Fd W g wb p S) (hs: ∀k,k<W.heap.size->S' k->S k):Fd W g wb p S':=by
 obtain ⟨hg,h|⟨h8,hp,a,b,h,ha,hb,na,nb⟩⟩:=h
 ·exact ⟨fun s=>hg (hs _ (aUz h) s), .inl h⟩
 ·exact ⟨fun s=>hg (hs _ (aUz h) s), .inr ⟨h8,hp,a,b,h,ha,hb,fun s=>na (hs _ (aUz ha) s),fun s=>nb (hs _ (aUz hb) s)⟩⟩
theorem Fd.more {W:World} {g:Nat} {wb p:Int} {S:Nat->Prop} (h:Fd W g wb p S):Fd W g wb p (fun k=>S k\/W.heap.size<=k):=h.thin (fun _ hk hs=>hs.resolve_right (by omega))
theorem Fd.below {W W1:World} {g:Nat} {wb p:Int} {S:Nat->Prop} (h:Fd W g wb p S) (hb:Below W.heap.size W W1):Fd W1 g wb p S:=h.move (fun k _ hk=>hb.block k hk)
theorem Fd.alloc {W:World} {g:Nat} {wb p:Int} {S:Nat->Prop} (h:Fd W g wb p S) (o:Obj):Fd (W.alloc o) g wb p S:=h.below (aoz (Zw _ _) o)
theorem Fd.drew {W:World} {g:Nat} {wb p:Int} {S:Nat->Prop} (h:Fd W g wb p S):Fd W.drew g wb p S:=h
theorem Fd.drewN {W:World} {g:Nat} {wb p:Int} {S:Nat->Prop} (h:Fd W g wb p S) (n:Nat):Fd (W.drewN n) g wb p S:=h
theorem Fd.set {W:World} {g:Nat} {wb p:Int} {S:Nat->Prop} (h:Fd W g wb p S) {q:Addr} (hq:S q.block) (u:Value):Fd (W.setCell q u) g wb p S:=
 h.move (fun k hk _=>Below.heap_setCell W q u k (fun e=>hk (e▸hq)))
theorem Fd.bits {W:World} {g:Nat} {wb p:Int} {S:Nat->Prop} (h:Fd W g wb p S):W.cell? ⟨g,0,none⟩=some (.int .i64 wb):=by
 obtain ⟨-,h|⟨-, -,a,b,h, -⟩⟩:=h
 ·exact (abz h 0).trans rfl
 ·exact (abz h 0).trans rfl
theorem Fd.poly {W:World} {g:Nat} {wb p:Int} {S:Nat->Prop} (h:Fd W g wb p S):W.cell? ⟨g,1,none⟩=some (.int .u32 p):=by
 obtain ⟨-,h|⟨-, -,a,b,h, -⟩⟩:=h
 ·exact (abz h 1).trans rfl
 ·exact (abz h 1).trans rfl
def fsize (wb:Int):Int:=if wb=8 then 256 else 65536
def inF (wb a:Int):Bool:=decide (0<=a)&&decide (a<fsize wb)
def allIn (wb:Int) (l:List Int):Bool:=l.all fun a=>decide (0<=a)&&decide (a<fsize wb)
def gmN (wb:Int) (a b:Nat):Nat:=if wb=8 then gm 7 285 a b else gm 15 69643 a b
def gmul (wb a b:Int):Int:=if inF wb a&&inF wb b then (gmN wb a.toNat b.toNat:Int) else 0
def gpwN (wb:Int) (a n:Nat):Nat:=if wb=8 then gp 7 285 a n else gp 15 69643 a n
def gpow (wb a n:Int):Int:=if inF wb a&&decide (0<=n) then (gpwN wb a.toNat n.toNat:Int) else 0
def ginv (wb a:Int):Int:=if inF wb a&&a !=0 then gpow wb a (fsize wb - 2) else 0
theorem log_at: ∀i,i<255->(logAt 255).getD (gpN i) 0=(i:Int):=by decide+kernel
theorem exp_at: ∀i,i<255->(expAt 255).getD i 0=(gpN i:Int):=by decide+kernel
theorem gpN_255:gpN 255=1:=by decide+kernel
theorem gpN_all: ∀a,a<256->a≠0-> ∃i,i<255/\gpN i=a:=by
 have h: ∀a,a<256->a≠0->gpN ((logAt 255).getD a 0).toNat=a/\((logAt 255).getD a 0).toNat<255:=by decide+kernel
 intro a ha h0;exact ⟨_,(h a ha h0).2,(h a ha h0).1⟩
theorem gpN_lt8: ∀i,gpN i<2^(7+1)
 |0=>by decide
 |i+1=>xt_lt 7 285 _ (gpN_lt8 i) gf8.toGf.hq gf8.toGf.hq1
theorem gf8_pow_mul: ∀(i j:Nat),j<256->gm 7 285 (gpN i) (gpN j)=gpN (i+j)
 |0,j,hj=>by
  rw [Nat.zero_add];exact gf8.toGf.dnz (gpN_range j hj).2
 |i+1,j,hj=>by
  have hl:=gpN_lt8 i;show gm 7 285 (xt (2^7) 285 (gpN i)) (gpN j)=_;rw [gf8.toGf.xt_left hl,gf8_pow_mul i j hj,show i+1+j=i+j+1 from by omega];rfl
theorem gpN_succ (i:Nat):gpN (i+1)=xt 128 285 (gpN i):=rfl
theorem gpN_period: ∀i,gpN (i+255)=gpN i
 |0=>gpN_255
 |i+1=>by
  rw [show i+1+255=(i+255)+1 from by omega,gpN_succ (i+255),gpN_succ i,gpN_period i]
theorem gpN_mod (i:Nat):gpN i=gpN (i % 255):=by
 have h: ∀k r,gpN (r+255*k)=gpN r:=by
  intro k
  induction k with
  |zero=>intro r;rfl
  |succ k ih=>intro r;rw [show r+255*(k+1)=(r+255*k)+255 from by omega,gpN_period,ih]
 have:=h (i / 255) (i % 255);rwa [Nat.mod_add_div] at this
theorem tab_mul (a b:Nat) (ha:a<256) (hb:b<256) (b0:a≠0) (a0:b≠0): ∃i j:Nat,i<255/\j<255/\(logAt 255).getD a 0=(i:Int)/\(logAt 255).getD b 0=(j:Int)/\gpN ((i+j) % 255)=gm 7 285 a b:=by
 obtain ⟨i,hi,rfl⟩:=gpN_all a ha b0;obtain ⟨j,hj,rfl⟩:=gpN_all b hb a0;exact ⟨i,j,hi,hj,log_at i hi,log_at j hj,by rw [<-gpN_mod,gf8_pow_mul i j (by omega)]⟩
theorem gmul_out {wb a b:Int} (h:(inF wb a&&inF wb b)=false):gmul wb a b=0:=by simp [gmul,h]
theorem d7z (wb b:Int):gmul wb 0 b=0:=by
 unfold gmul;split
 ·rw [Int.toNat_zero];unfold gmN;split<;>rw [Gf.dmz] <;>rfl
 ·rfl
theorem eMz (wb a:Int):gmul wb a 0=0:=by
 unfold gmul;split
 ·rw [Int.toNat_zero];unfold gmN;split<;>rw [Gf.caz] <;>rfl
 ·rfl
theorem gmN_lt {wb:Int} (hw:wb=8\/wb=16) {a:Nat} (b:Nat) (ha:(a:Int)<fsize wb):(gmN wb a b:Int)<fsize wb:=by
 rcases hw with rfl|rfl
 ·have:=gf8.toGf.lt (a:=a) (b:=b) (by simp [fsize] at ha;omega);simp only [gmN,fsize,if_true];omega
 ·have:=gf16.toGf.lt (a:=a) (b:=b) (by simp [fsize] at ha;omega);simp only [gmN,fsize,show¬((16:Int)=8) by decide,if_false];omega
theorem bIz {wb:Int} (hw:wb=8\/wb=16) (a b:Int):0<=gmul wb a b/\gmul wb a b<fsize wb:=by
 have hz:(0:Int)<fsize wb:=by rcases hw with rfl|rfl<;>decide
 unfold gmul;split
 ·rename_i h
  simp only [Bool.and_eq_true,inF,decide_eq_true_eq] at h;exact ⟨by omega,gmN_lt hw _ (by omega)⟩
 ·omega
def aXz.l0:Nat->List (List Int)->Int->Int->Option (Int)
 |0,_,_,_=>none
 |k+1,x0,x2,x7=>if x7<(x0.length:Int) then (if 0<=x7 then (if 0<=x2 then (if x2<((rd_L4 x0 x7).length:Int) then (if (rd (rd_L4 x0 x7) x2)=0 then (aXz.l0 k x0 x2 (wrap64 (x7+1))) else (some x7)) else (none)) else (none)) else (none)) else (some (-1))
def aXz.f (k:Nat) (l0:List (List Int)) (a1:Int) (a2:Int):Option (Int):=aXz.l0 k l0 a2 a1
theorem aXz.a6z: ∀k,(∀y0 y1 y2,LeO (aXz.l0 k y0 y1 y2) (aXz.l0 (k+1) y0 y1 y2))
 |0=>fun _ _ _ r h=>by simp [aXz.l0] at h
 |k+1=>by
  have a0:=aXz.a6z k
  ·intro y0 y1 y2;unfold aXz.l0
   repeat' with_reducible first|apply a0|apply Yg|apply Yh|apply Yi|refine Yj ?_ fun _=>?_
theorem aXz.mono: ∀a0 a1 a2 k,LeO (aXz.f k a0 a1 a2) (aXz.f (k+1) a0 a1 a2):=by
 intro a0 a1 a2 k;have b0:=aXz.a6z k;unfold aXz.f
 repeat' with_reducible first|apply b0|apply Yg|apply Yh|apply Yi|refine Yj ?_ fun _=>?_
theorem aXz.calls (k:Nat) (A0:Option Addr) (c0:Nat) (l0:List (List Int)) (a1 a2 r:Int) (w:World) (y0:Kd.C (Kd.slice 3 (Kd.int .i64)) w A0 l0.length l0) (w0:l0.length<=c0) (h:aXz.f k l0 a1 a2=some r):
  Calls prog 145 #[.slice A0 l0.length c0, .int .i64 a1, .int .i64 a2] w fun e w'=>e= .returned (.int .i64 r)/\Drawn0 w w':=by
 have z0:=Za y0;have F0:=Za w0;clear y0 w0;have H:=h;clear h;unfold aXz.f at H;have H':=Za H;clear H;go_enter func145,ntmps145;go_wp2
 go_loopg [7] k (fun kq v7 w'=> ∃(a0:Int),v7= .int .i64 a0/\Aside0 (aXz.l0 kq l0 a2 a0=some r)/\Aside0 (kq<=k)/\Drawn0 w w')
 case atStart=>exact ⟨(a1),sd_,H',⟨Zv _⟩,dn_⟩
 clear H';obtain ⟨a0,rfl,HA,B0,⟨m1,rfl⟩⟩:=hrel;rcases gk with _|k1
 ·exact Yf HA.o (by simp [aXz.l0])
 have H:=HA.o;clear HA;simp only [aXz.l0] at H;by_cases c4:a0<(l0.length:Int)
 rotate_left
 ·rw [Yb c4] at H;have r0:=Ze c4;clear c4;obtain rfl:=Zn H;go_wp2;go_ret;exact ⟨sd_,dn_⟩
 rw [Ya c4] at H;have r0:=Zd c4;clear c4;obtain ⟨E0,H⟩:=ih_ H;obtain ⟨C0,H⟩:=ih_ H;obtain ⟨D0,H⟩:=ih_ H;by_cases c8:(rd (rd_L4 l0 a0) a2)=0
 rotate_left
 ·rw [Yb c8] at H;have t0:((rd (rd_L4 l0 a0) a2)==0)=false:=Zq c8;have q0:((rd (rd_L4 l0 a0) a2) !=0)=true:=Yd c8;obtain rfl:=Zn H;have g0:0<=(a0:Int):=Zc as_;have f0:a0<(l0.length:Int):=Zc as_;obtain ⟨_,o0,n0,p0,i0,b0,d0⟩:=at_L4 z0.o a0 g0 f0;cases p0
  have e0:=Za d0;have h0:=Za b0;clear d0 b0;replace g0:=Zz g0;replace f0:=Zz f0;obtain ⟨_,k0,j0,u0,v0⟩:=ix_ e0.o a2 as_ as_;cases k0
  go_wp2;go_ret;exact ⟨sd_,dn_⟩
 rw [Ya c8] at H;have t0:((rd (rd_L4 l0 a0) a2)==0)=true:=Ye c8;have q0:((rd (rd_L4 l0 a0) a2) !=0)=false:=Yc c8;clear c8;have H':=Za H;clear H;have g0:0<=(a0:Int):=Zc as_;have f0:a0<(l0.length:Int):=Zc as_;obtain ⟨_,o0,n0,p0,i0,b0,d0⟩:=at_L4 z0.o a0 g0 f0;cases p0
 have e0:=Za d0;have h0:=Za b0;clear d0 b0;replace g0:=Zz g0;replace f0:=Zz f0;obtain ⟨_,k0,j0,u0,v0⟩:=ix_ e0.o a2 as_ as_;cases k0
 go_wp2
 go_roundg k1
 case measure=>have:=B0.o;omega
 case rel=>exact ⟨(wrap64 (a0+1)),sd_,H',⟨by have:=B0.o;omega⟩,dn_⟩
def auz.l0:Nat->Int->Int->Option (Int)
 |0,_,_=>none
 |k+1,x0,x3=>if x0>0 then (auz.l0 k (IntKind.u64.wrap (Int.tdiv x0 2)) (wrap64 (x3+1))) else (some x3)
def auz.f (k:Nat) (a0:Int):Option (Int):=auz.l0 k a0 (-1)
theorem auz.a6z: ∀k,(∀y0 y1,LeO (auz.l0 k y0 y1) (auz.l0 (k+1) y0 y1))
 |0=>fun _ _ r h=>by simp [auz.l0] at h
 |k+1=>by
  have a0:=auz.a6z k
  ·intro y0 y1;unfold auz.l0
   repeat' with_reducible first|apply a0|apply Yg|apply Yh|apply Yi|refine Yj ?_ fun _=>?_
theorem auz.mono: ∀a0 k,LeO (auz.f k a0) (auz.f (k+1) a0):=by
 intro a0 k;have b0:=auz.a6z k;unfold auz.f
 repeat' with_reducible first|apply b0|apply Yg|apply Yh|apply Yi|refine Yj ?_ fun _=>?_
theorem auz.calls (k:Nat) (a0 r:Int) (w:World) (h:auz.f k a0=some r):
  Calls prog 194 #[.int .u64 a0] w fun e w'=>e= .returned (.int .i64 r)/\Drawn0 w w':=by
 have H:=h;clear h;unfold auz.f at H;have H':=Za H;clear H;go_enter func194,ntmps194;go_wp2
 go_loopg [0,3] k (fun kq v0 v3 w'=> ∃(b0:Int) (c0:Int),v0= .int .u64 b0/\v3= .int .i64 c0/\Aside0 (auz.l0 kq b0 c0=some r)/\Aside0 (kq<=k)/\Drawn0 w w')
 case atStart=>exact ⟨(a0),((-1)),sd_,sd_,H',⟨Zv _⟩,dn_⟩
 clear H';obtain ⟨b0,c0,rfl,rfl,HA,e0,⟨m1,rfl⟩⟩:=hrel;rcases gk with _|k1
 ·exact Yf HA.o (by simp [auz.l0])
 have H:=HA.o;clear HA;simp only [auz.l0] at H;by_cases c2:b0>0
 ·rw [Ya c2] at H;have d0:decide (0<b0)=true:=Zd c2;clear c2;have H':=Za H;clear H;go_wp2
  go_roundg k1
  case measure=>have:=e0.o;omega
  case rel=>exact ⟨(IntKind.u64.wrap (Int.tdiv b0 2)),(wrap64 (c0+1)),sd_,sd_,H',⟨by have:=e0.o;omega⟩,dn_⟩
 ·rw [Yb c2] at H;have d0:decide (0<b0)=false:=Ze c2;clear c2;obtain rfl:=Zn H;go_wp2;go_ret;exact ⟨sd_,dn_⟩
def aEz.l0:Nat->Int->Int->Int->Option (Int)
 |0,_,_,_=>none
 |k+1,x0,x3,x4=>if x4<x0 then (aEz.l0 k x0 (IntKind.u64.wrap (2*x3)) (wrap64 (x4+1))) else (some x3)
def aEz.f (k:Nat) (a0:Int):Option (Int):=aEz.l0 k a0 1 0
theorem aEz.a6z: ∀k,(∀y0 y1 y2,LeO (aEz.l0 k y0 y1 y2) (aEz.l0 (k+1) y0 y1 y2))
 |0=>fun _ _ _ r h=>by simp [aEz.l0] at h
 |k+1=>by
  have a0:=aEz.a6z k
  ·intro y0 y1 y2;unfold aEz.l0
   repeat' with_reducible first|apply a0|apply Yg|apply Yh|apply Yi|refine Yj ?_ fun _=>?_
theorem aEz.mono: ∀a0 k,LeO (aEz.f k a0) (aEz.f (k+1) a0):=by
 intro a0 k;have b0:=aEz.a6z k;unfold aEz.f
 repeat' with_reducible first|apply b0|apply Yg|apply Yh|apply Yi|refine Yj ?_ fun _=>?_
theorem aEz.calls (k:Nat) (a0 r:Int) (w:World) (h:aEz.f k a0=some r):
  Calls prog 195 #[.int .i64 a0] w fun e w'=>e= .returned (.int .u64 r)/\Drawn0 w w':=by
 have H:=h;clear h;unfold aEz.f at H;have H':=Za H;clear H;go_enter func195,ntmps195;go_wp2
 go_loopg [3,4] k (fun kq v3 v4 w'=> ∃(c0:Int) (b0:Int),v3= .int .u64 c0/\v4= .int .i64 b0/\Aside0 (aEz.l0 kq a0 c0 b0=some r)/\Aside0 (kq<=k)/\Drawn0 w w')
 case atStart=>exact ⟨(1),(0),sd_,sd_,H',⟨Zv _⟩,dn_⟩
 clear H';obtain ⟨c0,b0,rfl,rfl,HA,e0,⟨m1,rfl⟩⟩:=hrel;rcases gk with _|k1
 ·exact Yf HA.o (by simp [aEz.l0])
 have H:=HA.o;clear HA;simp only [aEz.l0] at H;by_cases c2:b0<a0
 ·rw [Ya c2] at H;have d0:=Zd c2;clear c2;have H':=Za H;clear H;go_wp2
  go_roundg k1
  case measure=>have:=e0.o;omega
  case rel=>exact ⟨(IntKind.u64.wrap (2*c0)),(wrap64 (b0+1)),sd_,sd_,H',⟨by have:=e0.o;omega⟩,dn_⟩
 ·rw [Yb c2] at H;have d0:=Ze c2;clear c2;obtain rfl:=Zn H;go_wp2;go_ret;exact ⟨sd_,dn_⟩
def azz.l0:Nat->Int->Int->Int->Option (Int)
 |0,_,_,_=>none
 |k+1,x0,x1,x5=>(auz.f k x0).bind fun t159=>(if t159>=x5 then ((auz.f k x0).bind fun t160=>((aEz.f k (wrap64 (t160 - x5))).bind fun t161=>(azz.l0 k (Go.bits .xor .u64 x0 (IntKind.u64.wrap ((IntKind.u64.wrap (x1))*t161))) x1 x5))) else (some ((x0) % 4294967296)))
def azz.f (k:Nat) (a0:Int) (a1:Int):Option (Int):=if a1=0 then (some 0) else ((auz.f k (IntKind.u64.wrap (a1))).bind fun t158=>(azz.l0 k a0 a1 t158))
theorem azz.a6z: ∀k,(∀y0 y1 y2,LeO (azz.l0 k y0 y1 y2) (azz.l0 (k+1) y0 y1 y2))
 |0=>fun _ _ _ r h=>by simp [azz.l0] at h
 |k+1=>by
  have a0:=azz.a6z k
  ·intro y0 y1 y2;unfold azz.l0
   repeat' with_reducible first|apply a0|apply auz.mono|apply aEz.mono|apply Yg|apply Yh|apply Yi|refine Yj ?_ fun _=>?_
theorem azz.mono: ∀a0 a1 k,LeO (azz.f k a0 a1) (azz.f (k+1) a0 a1):=by
 intro a0 a1 k;have b0:=azz.a6z k;unfold azz.f
 repeat' with_reducible first|apply b0|apply auz.mono|apply aEz.mono|apply Yg|apply Yh|apply Yi|refine Yj ?_ fun _=>?_
theorem azz.calls (k:Nat) (a0 a1 r:Int) (w:World) (h:azz.f k a0 a1=some r):
  Calls prog 180 #[.int .u64 a0, .int .u32 a1] w fun e w'=>e= .returned (.int .u32 r)/\Drawn0 w w':=by
 have H:=h;clear h;unfold azz.f at H;by_cases c3:a1=0
 ·rw [Ya c3] at H;have h0:(a1==0)=true:=Ye c3;have g0:(a1 !=0)=false:=Yc c3;clear c3;obtain rfl:=Zn H;go_enter func180,ntmps180;go_wp2;go_ret;exact ⟨sd_,dn_⟩
 ·rw [Yb c3] at H;have h0:(a1==0)=false:=Zq c3;have g0:(a1 !=0)=true:=Yd c3;obtain ⟨c0,A4,H⟩:=ob_ H
  (try dsimp only at H)
  have H':=Za H;clear H;go_enter func180,ntmps180
  go_wp2_with (first|((with_reducible refine aaz (f:=194) rfl ?_);refine gl_ (some 10) func194 #[.int .u64 (IntKind.u64.wrap (a1))] ?_;(with_reducible refine (auz.calls k (IntKind.u64.wrap (a1)) c0 _ A4.o).mono ?_);rintro e w' ⟨rfl,⟨nd,rfl⟩⟩;refine ⟨_,rfl,?_⟩))
  go_loopg [0] k (fun kq v0 w'=> ∃(b0:Int),v0= .int .u64 b0/\Aside0 (azz.l0 kq b0 a1 c0=some r)/\Aside0 (kq<=k)/\Drawn0 w w')
  case atStart=>exact ⟨(a0),sd_,H',⟨Zv _⟩,dn_⟩
  clear H';clear c3 h0 g0;obtain ⟨b0,rfl,HA,j0,⟨m1,rfl⟩⟩:=hrel;rcases gk with _|k1
  ·exact Yf HA.o (by simp [azz.l0])
  have H:=HA.o;clear HA;simp only [azz.l0] at H;obtain ⟨d0,A5,H⟩:=ob_ H
  (try dsimp only at H)
  by_cases c6:d0>=c0
  rotate_left
  ·rw [Yb c6] at H;have i0:decide (c0<=d0)=false:=Ze c6;clear c6;obtain rfl:=Zn H
   go_wp2_with (first|((with_reducible refine aaz (f:=194) rfl ?_);refine gl_ (some 12) func194 #[.int .u64 b0] ?_;(with_reducible refine (auz.calls k1 b0 d0 _ A5.o).mono ?_);rintro e w' ⟨rfl,⟨nd,rfl⟩⟩;refine ⟨_,rfl,?_⟩))
   go_ret;exact ⟨sd_,dn_⟩
  rw [Ya c6] at H;have i0:decide (c0<=d0)=true:=Zd c6;clear c6;obtain ⟨e0,A7,H⟩:=ob_ H
  (try dsimp only at H)
  obtain ⟨f0,A8,H⟩:=ob_ H
  (try dsimp only at H)
  have H':=Za H;clear H
  go_wp2_with (first|((with_reducible refine aaz (f:=194) rfl ?_);refine gl_ (some 12) func194 #[.int .u64 b0] ?_;(with_reducible refine (auz.calls k1 b0 d0 _ A5.o).mono ?_);rintro e w' ⟨rfl,⟨nd,rfl⟩⟩;refine ⟨_,rfl,?_⟩)|((with_reducible refine aaz (f:=194) rfl ?_);refine gl_ (some 19) func194 #[.int .u64 b0] ?_;(with_reducible refine (auz.calls k1 b0 e0 _ A7.o).mono ?_);rintro e w' ⟨rfl,⟨nd,rfl⟩⟩;refine ⟨_,rfl,?_⟩)|((with_reducible refine aaz (f:=195) rfl ?_);refine gl_ (some 22) func195 #[.int .i64 (wrap64 (e0 - c0))] ?_;(with_reducible refine (aEz.calls k1 (wrap64 (e0 - c0)) f0 _ A8.o).mono ?_);rintro e w' ⟨rfl,⟨nd,rfl⟩⟩;refine ⟨_,rfl,?_⟩))
  go_roundg k1
  case measure=>have:=j0.o;omega
  case rel=>exact ⟨(Go.bits .xor .u64 b0 (IntKind.u64.wrap ((IntKind.u64.wrap (a1))*f0))),sd_,H',⟨by have:=j0.o;omega⟩,dn_⟩
def aGz.l0:Nat->Int->Int->Int->Option (Int)
 |0,_,_,_=>none
 |k+1,x1,x5,x6=>if x1>0 then (if (Int.tmod x1 2)=1 then (aGz.l0 k ((Int.tdiv x1 2) % 4294967296) (Go.bits .xor .u64 x5 x6) (IntKind.u64.wrap (2*x6))) else (aGz.l0 k ((Int.tdiv x1 2) % 4294967296) x5 (IntKind.u64.wrap (2*x6)))) else (some x5)
def aGz.f (k:Nat) (a0:Int) (a1:Int):Option (Int):=aGz.l0 k a1 0 (IntKind.u64.wrap (a0))
theorem aGz.a6z: ∀k,(∀y0 y1 y2,LeO (aGz.l0 k y0 y1 y2) (aGz.l0 (k+1) y0 y1 y2))
 |0=>fun _ _ _ r h=>by simp [aGz.l0] at h
 |k+1=>by
  have a0:=aGz.a6z k
  ·intro y0 y1 y2;unfold aGz.l0
   repeat' with_reducible first|apply a0|apply Yg|apply Yh|apply Yi|refine Yj ?_ fun _=>?_
theorem aGz.mono: ∀a0 a1 k,LeO (aGz.f k a0 a1) (aGz.f (k+1) a0 a1):=by
 intro a0 a1 k;have b0:=aGz.a6z k;unfold aGz.f
 repeat' with_reducible first|apply b0|apply Yg|apply Yh|apply Yi|refine Yj ?_ fun _=>?_
theorem aGz.calls (k:Nat) (a0 a1 r:Int) (w:World) (h:aGz.f k a0 a1=some r):
  Calls prog 181 #[.int .u32 a0, .int .u32 a1] w fun e w'=>e= .returned (.int .u64 r)/\Drawn0 w w':=by
 have H:=h;clear h;unfold aGz.f at H;have H':=Za H;clear H;go_enter func181,ntmps181;go_wp2
 go_loopg [1,5,6] k (fun kq v1 v5 v6 w'=> ∃(b0:Int) (d0:Int) (c0:Int),v1= .int .u32 b0/\v5= .int .u64 d0/\v6= .int .u64 c0/\Aside0 (aGz.l0 kq b0 d0 c0=some r)/\Aside0 (kq<=k)/\Drawn0 w w')
 case atStart=>exact ⟨(a1),(0),(IntKind.u64.wrap (a0)),sd_,sd_,sd_,H',⟨Zv _⟩,dn_⟩
 clear H';obtain ⟨b0,d0,c0,rfl,rfl,rfl,HA,e0,⟨m1,rfl⟩⟩:=hrel;rcases gk with _|k1
 ·exact Yf HA.o (by simp [aGz.l0])
 have H:=HA.o;clear HA;simp only [aGz.l0] at H;by_cases c3:b0>0
 rotate_left
 ·rw [Yb c3] at H;have g0:decide (0<b0)=false:=Ze c3;clear c3;obtain rfl:=Zn H;go_wp2;go_ret;exact ⟨sd_,dn_⟩
 rw [Ya c3] at H;have g0:decide (0<b0)=true:=Zd c3;clear c3;by_cases c4:(Int.tmod b0 2)=1
 ·rw [Ya c4] at H;have f0:((Int.tmod b0 2)==1)=true:=Ye c4;have h0:((Int.tmod b0 2) !=1)=false:=Yc c4;clear c4;have H':=Za H;clear H;go_wp2
  go_roundg k1
  case measure=>have:=e0.o;omega
  case rel=>exact ⟨((Int.tdiv b0 2) % 4294967296),(Go.bits .xor .u64 d0 c0),(IntKind.u64.wrap (2*c0)),sd_,sd_,sd_,H',⟨by have:=e0.o;omega⟩,dn_⟩
 ·rw [Yb c4] at H;have f0:((Int.tmod b0 2)==1)=false:=Zq c4;have h0:((Int.tmod b0 2) !=1)=true:=Yd c4;have H':=Za H;clear H;go_wp2
  go_roundg k1
  case measure=>have:=e0.o;omega
  case rel=>exact ⟨((Int.tdiv b0 2) % 4294967296),(d0),(IntKind.u64.wrap (2*c0)),sd_,sd_,sd_,H',⟨by have:=e0.o;omega⟩,dn_⟩
def bits_Len64.f (a0:Int):Option (Int):=if 0<=a0 then (if a0<=18446744073709551615 then (some (Lib.bitLen a0.toNat:Int)) else (none)) else (none)
theorem bits_Len64.calls (a0 r:Int) (w:World) (h:bits_Len64.f a0=some r):
  Calls prog 162 #[.int .u64 a0] w fun e w'=>e= .returned (.int .i64 r)/\Drawn0 w w':=by
 unfold bits_Len64.f at h;by_cases h0:0<=a0
 case neg=>rw [Yb h0] at h;cases h
 rw [Ya h0] at h;by_cases h1:a0<=18446744073709551615
 case neg=>rw [Yb h1] at h;cases h
 rw [Ya h1] at h;cases h
 refine (bits_Len64_told a0 w h0 h1).mono ?_;rintro e w' ⟨rfl,rfl⟩;exact ⟨rfl,Drawn0.refl _⟩
end Go.Proofs.Xc
end
