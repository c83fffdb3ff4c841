-- Joined texts of this work (wip/tools/bundle.py).
import Derived.Test.YtpdakdcmahlghaaGreatProg
import Derived.Below
import Derived.Deep.Draws
import Derived.Deep.AppendLies
import Derived.Maps.AppendAt
import Derived.OwnWalk
import Derived.Laws.BytesArg
import Derived.Laws.MakeOwn
import Derived.Laws.OwnMore
import Derived.Deep.OwnRows
import Derived.Tactics
import Derived.Lib.ConvBytes
import Derived.Laws.Slices
import Derived.WalkKit
import Derived.KernelRfl
import Derived.RowKit3
import Derived.Deep.LoopGhost
import Derived.Deep.QuietTactic
import Derived.BigQuiet
import Derived.WideLaws
import Derived.Deep.DeepCutAuto
import Derived.Deep.CutBlock
import Derived.Deep.RegionHeld3
import Derived.Laws.Rows
import Derived.Lib.AppendStr
import Derived.ArgAppend
import Derived.Laws.IdiomCopy
import Derived.OrdersHeld
import Derived.Laws.BitsLemmas
import Derived.RowKit
import Derived.Test.YtpdakdcmahlghaaGreatBReconUpdates1
import Derived.Test.YtpdakdcmahlghaaGreatBReconUpdates2
set_option maxHeartbeats 8000000
set_option maxRecDepth 100000
set_option linter.unusedVariables false
set_option linter.unusedSimpArgs false
section
namespace Go.Proofs.Xc
open Go.RowKit Go.Proofs.Pw Go.Proofs.Pl Go.Proofs.Pm
attribute [local go_sem] a7z a8z bjz bkz aZz a0z a9z baz
def errW:Option Int->Value
 |none=> .nilIface
 |some c=> .iface 0 (.int .i64 c)
theorem cMz:errW none= .nilIface:=rfl
theorem cNz (c:Int):errW (some c)= .iface 0 (.int .i64 c):=rfl
theorem info3:(Tryz.prog.info? 3).map (fun i=>(i.zero,i.size,i.bytes))=some (some (.int .i64 0),1,8):=by kernel_rfl
theorem info5:(Tryz.prog.info? 5).map (fun i=>(i.zero,i.size,i.bytes))=some (some (.int .u8 0),1,1):=by kernel_rfl
theorem info34:(Tryz.prog.info? 34).map (fun i=>(i.zero,i.size,i.bytes))=some (some (.slice none 0 0),1,24):=by kernel_rfl
theorem info57:(Tryz.prog.info? 57).map (fun i=>(i.zero,i.size,i.bytes))=some (some (.slice none 0 0),1,24):=by kernel_rfl
def rd_L1 (xs:List (List Int)) (i:Int):(List Int):=xs.getD i.toNat ([] :List Int)
theorem at_L1 {w:World} {A:Option Addr} {n:Nat} {xs:List (List Int)} (h:Kd.C (Kd.slice 5 (Kd.int .u8)) w A n xs) (i:Int) (h0:0<=i) (h1:i<n): ∃ad A0 c0,A=some ad/\w.cell? (ad.add i.toNat)=some (.slice A0 (rd_L1 xs i).length c0)/\(rd_L1 xs i).length<=c0/\(Kd.int .u8).C w A0 (rd_L1 xs i).length (rd_L1 xs i):=by
 obtain ⟨ad,c,e,_,hK,hc0⟩:=Kd.C_get h ([] :List Int) i h0 h1;have hc: ∀j u,c[j]?=some u->w.cell? (ad.add (i.toNat*1+j))=some u:=hc0;obtain ⟨A0,c0,rfl,l0,g0⟩:=hK;exact ⟨ad,A0,c0,e,by have hq:=hc 0 _ rfl;rwa [Nat.mul_one,Nat.add_zero] at hq,l0,g0⟩
def rd_L4 (xs:List (List Int)) (i:Int):(List Int):=xs.getD i.toNat ([] :List Int)
theorem at_L4 {w:World} {A:Option Addr} {n:Nat} {xs:List (List Int)} (h:Kd.C (Kd.slice 3 (Kd.int .i64)) w A n xs) (i:Int) (h0:0<=i) (h1:i<n): ∃ad A0 c0,A=some ad/\w.cell? (ad.add i.toNat)=some (.slice A0 (rd_L4 xs i).length c0)/\(rd_L4 xs i).length<=c0/\(Kd.int .i64).C w A0 (rd_L4 xs i).length (rd_L4 xs i):=by
 obtain ⟨ad,c,e,_,hK,hc0⟩:=Kd.C_get h ([] :List Int) i h0 h1;have hc: ∀j u,c[j]?=some u->w.cell? (ad.add (i.toNat*1+j))=some u:=hc0;obtain ⟨A0,c0,rfl,l0,g0⟩:=hK;exact ⟨ad,A0,c0,e,by have hq:=hc 0 _ rfl;rwa [Nat.mul_one,Nat.add_zero] at hq,l0,g0⟩
def bL:Nat->Nat->List Bool
 |0,_=> []
 |n+1,m=>(m % 2==1)::bL n (m / 2)
def bA (n m:Nat):Array Bool:=(bL n m).toArray
section
variable {P : Program} {md : Region.Mode} {ops : Array Oper} {Q : Exit -> Act -> World -> Prop} {S : World -> Prop} {ds : List Nat} {oi : Oper} {v : Value} {fuel n m0 : Nat} {a a' : Act} {w : World} {T : Bool × List (List Nat × List Nat)} {B : List Nat}
theorem pu_ (i d m : Nat)
  (h:wpAnyLast P md ops Q S ds fuel (bA n m) a' w)
  (hi:ops[i]?=some oi:=by exact rfl) (hN:oi.dst=some d:=by exact rfl)
  (hc:anyB md ops (bA n m0) (bA n m) i=true:=by kernel_rfl)
  (hQ: ∀c v a w,Q (.panic c) (Act.put a (some d) v) w->Q (.panic c) a w:=by exact fun _ _ _ _ h=>h)
  (hy:Yields P ops oi v a:=by (refine Or.inl ⟨by rfl,?_⟩;intro w';go_simp;with_reducible rfl))
  (ha:a.put (some d) v=a':=by (simp only [Act.put,List.setIfInBounds_toArray,List.set_cons_zero,List.set_cons_succ,i64_w,i32_w];rfl)):
  wpAnyLast P md ops Q S ds (fuel+1) (bA n m0) a w:=pure_ _ hi hN hc (fun c a w=>by rw [hN];exact hQ c _ a w) hy ha h
theorem pv_ (i d m : Nat) (HT : Aside0 (rtab md ops = T))
  (h:wpAnyLast P md ops Q S ds fuel (bA n m) a' w)
  (hi:ops[i]?=some oi:=by exact rfl) (hN:oi.dst=some d:=by exact rfl)
  (hc:anyT T (bA n m0).toList (bA n m).toList i=true:=by kernel_rfl)
  (hQ: ∀c v a w,Q (.panic c) (Act.put a (some d) v) w->Q (.panic c) a w:=by exact fun _ _ _ _ h=>h)
  (hy:Yields P ops oi v a:=by (refine Or.inl ⟨by rfl,?_⟩;intro w';go_simp;with_reducible rfl))
  (ha:a.put (some d) v=a':=by (simp only [Act.put,List.setIfInBounds_toArray,List.set_cons_zero,List.set_cons_succ,i64_w,i32_w];rfl)):
  wpAnyLast P md ops Q S ds (fuel+1) (bA n m0) a w:=pure_ _ hi hN (any_of HT.out hc) (fun c a w=>by rw [hN];exact hQ c _ a w) hy ha h
theorem tk_ (i d m : Nat) (hS : S w)
  (h:wpAnyLast P md ops Q S ds fuel (bA n m) a' w)
  (hi:ops[i]?=some oi:=by exact rfl) (hN:oi.dst=some d:=by exact rfl)
  (hc:takeB md ops ds (bA n m0) (bA n m) i=true:=by kernel_rfl)
  (hQ: ∀c v a w,Q (.panic c) (Act.put a (some d) v) w->Q (.panic c) a w:=by exact fun _ _ _ _ h=>h)
  (hy:YieldsIf P ops S oi v a:=by (refine Or.inl ⟨by rfl,?_⟩;intro w' hs;(try dsimp only at hs);(repeat (rcases hs with ⟨s0,hs⟩));go_simp;with_reducible rfl))
  (ha:a.put (some d) v=a':=by (simp only [Act.put,List.setIfInBounds_toArray,List.set_cons_zero,List.set_cons_succ,i64_w,i32_w];rfl)):
  wpAnyLast P md ops Q S ds (fuel+1) (bA n m0) a w:=take_ _ hi hN hc (fun c a w=>by rw [hN];exact hQ c _ a w) hy hS ha h
theorem tw_ (i d m : Nat) (HT : Aside0 (rtab md ops = T)) (HW : Aside0 (waitsOk T.2 B = true)) (hS : S w)
  (h:wpAnyLast P md ops Q S ds fuel (bA n m) a' w)
  (hi:ops[i]?=some oi:=by exact rfl) (hN:oi.dst=some d:=by exact rfl)
  (hc:takeW T B ds (bA n m0).toList (bA n m).toList i=true:=by kernel_rfl)
  (hQ: ∀c v a w,Q (.panic c) (Act.put a (some d) v) w->Q (.panic c) a w:=by exact fun _ _ _ _ h=>h)
  (hy:YieldsIf P ops S oi v a:=by (refine Or.inl ⟨by rfl,?_⟩;intro w' hs;(try dsimp only at hs);(repeat (rcases hs with ⟨s0,hs⟩));go_simp;with_reducible rfl))
  (ha:a.put (some d) v=a':=by (simp only [Act.put,List.setIfInBounds_toArray,List.set_cons_zero,List.set_cons_succ,i64_w,i32_w];rfl)):
  wpAnyLast P md ops Q S ds (fuel+1) (bA n m0) a w:=take_ _ hi hN (take_ofW HT.out HW.out hc) (fun c a w=>by rw [hN];exact hQ c _ a w) hy hS ha h
end
theorem kr_ {p:Prop} (h:p:=by kernel_rfl):p:=h
theorem bl_ {p:Prop} (h:p:=by repeat (first|(with_reducible first|exact HB.out|apply alz|apply aSz|apply crz|refine dfz ?_ (Aside0.out (by assumption)))|exact HB.out)):p:=h
theorem bk_ {p:Prop} (h:p:=by (with_reducible repeat (first|refine cwz ?_ _|refine cTz ?_|refine aEz ?_ _));exact Aside0.out (by assumption)):p:=h
theorem bp3_0 {w:World} {g:Nat} {t:TypeId} {x0 x1 x2 u:Value} (h:w.heap[g]?=some (.cells #[x0,x1,x2] t (0,0))):(w.setCell ⟨g,0,none⟩ u).heap[g]?=some (.cells #[u,x1,x2] t (0,0)):=cqz h 0 u rfl
theorem bp3_1 {w:World} {g:Nat} {t:TypeId} {x0 x1 x2 u:Value} (h:w.heap[g]?=some (.cells #[x0,x1,x2] t (0,0))):(w.setCell ⟨g,1,none⟩ u).heap[g]?=some (.cells #[x0,u,x2] t (0,0)):=cqz h 1 u rfl
theorem bp3_2 {w:World} {g:Nat} {t:TypeId} {x0 x1 x2 u:Value} (h:w.heap[g]?=some (.cells #[x0,x1,x2] t (0,0))):(w.setCell ⟨g,2,none⟩ u).heap[g]?=some (.cells #[x0,x1,u] t (0,0)):=cqz h 2 u rfl
theorem bp5_0 {w:World} {g:Nat} {t:TypeId} {x0 x1 x2 x3 x4 u:Value} (h:w.heap[g]?=some (.cells #[x0,x1,x2,x3,x4] t (0,0))):(w.setCell ⟨g,0,none⟩ u).heap[g]?=some (.cells #[u,x1,x2,x3,x4] t (0,0)):=cqz h 0 u rfl
theorem bp5_1 {w:World} {g:Nat} {t:TypeId} {x0 x1 x2 x3 x4 u:Value} (h:w.heap[g]?=some (.cells #[x0,x1,x2,x3,x4] t (0,0))):(w.setCell ⟨g,1,none⟩ u).heap[g]?=some (.cells #[x0,u,x2,x3,x4] t (0,0)):=cqz h 1 u rfl
theorem bp5_2 {w:World} {g:Nat} {t:TypeId} {x0 x1 x2 x3 x4 u:Value} (h:w.heap[g]?=some (.cells #[x0,x1,x2,x3,x4] t (0,0))):(w.setCell ⟨g,2,none⟩ u).heap[g]?=some (.cells #[x0,x1,u,x3,x4] t (0,0)):=cqz h 2 u rfl
theorem bp5_3 {w:World} {g:Nat} {t:TypeId} {x0 x1 x2 x3 x4 u:Value} (h:w.heap[g]?=some (.cells #[x0,x1,x2,x3,x4] t (0,0))):(w.setCell ⟨g,3,none⟩ u).heap[g]?=some (.cells #[x0,x1,x2,u,x4] t (0,0)):=cqz h 3 u rfl
theorem bp5_4 {w:World} {g:Nat} {t:TypeId} {x0 x1 x2 x3 x4 u:Value} (h:w.heap[g]?=some (.cells #[x0,x1,x2,x3,x4] t (0,0))):(w.setCell ⟨g,4,none⟩ u).heap[g]?=some (.cells #[x0,x1,x2,x3,u] t (0,0)):=cqz h 4 u rfl
theorem kb_ {p:Prop} (h:p:=by (with_reducible repeat (first|refine cwz ?_ _|refine cTz ?_|refine aEz ?_ _|refine bHz ?_ (Aside0.out (by assumption)) _|apply bp3_0|apply bp3_1|apply bp3_2|apply bp5_0|apply bp5_1|apply bp5_2|apply bp5_3|apply bp5_4));with_reducible exact Aside0.out (by assumption)):p:=h
theorem ar_ {p:Prop} (h:p:=by (try simp only [List.map_toArray,List.map_cons,List.map_nil]);first|done|rfl|(simp only [List.length_drop,List.length_take];rfl)):p:=h
theorem am_ {p:Prop} (h:p:=by simp only [List.map_toArray,List.map_cons,List.map_nil];rfl):p:=h
theorem as_ {p:Prop} (h:p:=by first|(with_reducible assumption)|assumption):p:=h
theorem er_ {p:Prop} (h:p:=by first|rfl|(simp [cMz,cNz] <;>rfl)|(simp [*,cMz,cNz] <;>rfl)):p:=h
theorem sd_ {p:Prop} (h:p:=by first|rfl|(simp;done)|(simp [*];done)):p:=h
theorem dn_ {p:Prop} (h:p:=by repeat (first|exact Drawn0.refl _|apply Drawn0.step)):p:=h
theorem nl_ {p:Prop} (h:p:=by first|exact Kd.S_nil _ _ _ _ _|exact Kd.N_nil _ _ _ _ _|exact Kd.V_nil _ _ _ _ _|exact Kd.Q_nil _ _ _ _ _|exact Kd.R_nil _ _ _ _ _):p:=h
theorem bc2_ {w:World} {g:Nat} {t:TypeId} {x0 x1:Value} (h:w.heap[g]?=some (.cells #[x0,x1] t (0,0))):w.cell? ⟨g,0,none⟩=some x0/\w.frozen? ⟨g,0,none⟩=false/\w.cell? ⟨g,1,none⟩=some x1/\w.frozen? ⟨g,1,none⟩=false:=⟨(aaz h 0).trans rfl,a6z h 0,(aaz h 1).trans rfl,a6z h 1⟩
theorem bc3_ {w:World} {g:Nat} {t:TypeId} {x0 x1 x2:Value} (h:w.heap[g]?=some (.cells #[x0,x1,x2] t (0,0))):w.cell? ⟨g,0,none⟩=some x0/\w.frozen? ⟨g,0,none⟩=false/\w.cell? ⟨g,1,none⟩=some x1/\w.frozen? ⟨g,1,none⟩=false/\w.cell? ⟨g,2,none⟩=some x2/\w.frozen? ⟨g,2,none⟩=false:=⟨(aaz h 0).trans rfl,a6z h 0,(aaz h 1).trans rfl,a6z h 1,(aaz h 2).trans rfl,a6z h 2⟩
theorem bc5_ {w:World} {g:Nat} {t:TypeId} {x0 x1 x2 x3 x4:Value} (h:w.heap[g]?=some (.cells #[x0,x1,x2,x3,x4] t (0,0))):w.cell? ⟨g,0,none⟩=some x0/\w.frozen? ⟨g,0,none⟩=false/\w.cell? ⟨g,1,none⟩=some x1/\w.frozen? ⟨g,1,none⟩=false/\w.cell? ⟨g,2,none⟩=some x2/\w.frozen? ⟨g,2,none⟩=false/\w.cell? ⟨g,3,none⟩=some x3/\w.frozen? ⟨g,3,none⟩=false/\w.cell? ⟨g,4,none⟩=some x4/\w.frozen? ⟨g,4,none⟩=false:=⟨(aaz h 0).trans rfl,a6z h 0,(aaz h 1).trans rfl,a6z h 1,(aaz h 2).trans rfl,a6z h 2,(aaz h 3).trans rfl,a6z h 3,(aaz h 4).trans rfl,a6z h 4⟩
theorem bb_ {W w w1 : World} {g : Nat} {o : Obj} (h : Aside0 (W.heap[g]? = some o)) (hb : Below w.heap.size w w1)
  (h2:W.heap[g]?=some o->w.heap[g]?=some o:=by intro hx;(with_reducible repeat (first|refine cwz ?_ _|refine cTz ?_|refine aEz ?_ _));exact hx):Aside0 (w1.heap[g]?=some o):=⟨awz (h2 h.out) hb⟩
theorem hs_ {a b w w1 : World} (_HB : Aside0 (Below a.heap.size a b)) (hb : Below w.heap.size w w1)
  (h:Below a.heap.size a w:=by repeat (first|(with_reducible first|exact HB.out|apply alz|apply aSz|apply crz|refine dfz ?_ (Aside0.out (by assumption)))|exact HB.out)):Aside0 (Below a.heap.size a w1):=⟨cLz h hb⟩
theorem ag_ {n:Nat} {a b:World} (_HB:Aside0 (Below n a b)) (g:Nat) (h:n<=g:=by rw [hg];exact (aez bl_)):Aside0 (n<=g):=⟨h⟩
theorem n1_ {W:World} {g:Nat} {o:Obj} (_h:Aside0 (W.heap[g]?=some o)) (g':Nat) (h:g≠g':=by rw [hg];exact Nat.ne_of_lt (aPz bk_)):Aside0 (g≠g'):=⟨h⟩
theorem n2_ {W:World} {g:Nat} {o:Obj} (_h:Aside0 (W.heap[g]?=some o)) (g':Nat) (h:g'≠g:=by rw [hg];exact Nat.ne_of_gt (aPz bk_)):Aside0 (g'≠g):=⟨h⟩
theorem ob_ {α β:Type} {o:Option α} {f:α->Option β} {b:β} (h:o.bind f=some b): ∃a,Aside0 (o=some a)/\f a=some b:=by
 obtain ⟨a,h1,h2⟩:=Option.bind_eq_some_iff.1 h;exact ⟨a,⟨h1⟩,h2⟩
theorem xd_ {p q:Prop} (x:q) (h:q->p:=by intro hx;(with_reducible repeat (first|apply Kd.N_alloc|apply Kd.N_drewN|apply Kd.edz|apply Kd.ccz|apply Kd.cdz|apply Kd.coz|apply Kd.c7z|apply Kd.dmz|apply Kd.c1z|apply Kd.S_alloc|apply Kd.S_drewN|apply Kd.S_drew|refine Kd.b0z ?_ _|refine Kd.buz ?_ _|refine Kd.b4z ?_));exact hx):p:=h x
section
variable {P : Program} {ops_ : Array Oper} {Q : Exit -> Act -> World -> Prop} {rest : List Oper} {o : Oper} {a : Act} {W : World}
theorem bx_ (N : Tmp) (cs : Array Value) (t : TypeId)
  (h: ∀g,g=W.heap.size-> ∀w1,w1.heap[g]?=some (.cells cs t (0,0))->Below W.heap.size W w1->wpList P ops_ Q rest (a.put o.dst (.pointer (some ⟨g,0,none⟩))) w1)
  (hd:o.dst=some N:=by rfl) (hgd:o.guard=none:=by rfl)
  (hrun:(execOp a.eval o).run P W= .ok (.value (.pointer (some ⟨W.heap.size,0,none⟩))) (W.alloc (.cells cs t (0,0))):=by first|(go_simp;done)|(go_simp;rfl)):wpList P ops_ Q (o::rest) a W:=
 cxz hgd hd hrun h
theorem gl_ (N : Option Tmp) {f : FuncId} {fn : Func} (hf : P.funcs[f]? = some fn) (args : Array Value) {xs : Array Operand} {ts : Array TypeId}
  (h:Calls P f args W fun e w'=> ∃v,e= .returned v/\wpList P ops_ Q rest (a.put N v) w')
  (hd:o.dst=N:=by rfl) (hg:o.guard=none:=by rfl) (hname:(fn.name== "runtime.NumGoroutine")=false:=by kernel_rfl) (hb:fn.body.isSome=true:=by rfl)
  (hop:o.op= .call { callee:= .value (.func f),args:=xs,argTypes:=ts } :=by rfl)
  (hargs:xs.map a.eval=args:=by (try simp only [List.map_toArray,List.map_cons,List.map_nil]);first|done|rfl|(simp only [List.length_drop,List.length_take];rfl)):wpList P ops_ Q (o::rest) a W:=
 goesL_ N hd hg hf hname hb args hop hargs h
end
section
variable {α : Type} {d : Kd α} {e base : Nat} {ok ok' : Nat -> Prop} {w w1 : World} {v : Value} {xs : List α}
theorem nm_ (h:Aside0 (d.N e w base ok v xs)) (hok: ∀k,ok k->ok' k:=by intro _ hk;first|exact hk|exact trivial|((try simp only [and_assoc] at hk);(repeat (have h_:=hk.1;replace hk:=hk.2));((repeat' apply And.intro)<;>first|assumption|exact trivial|(simp [Value.ownBlock];done)))) (hw:d.N e w base ok' v xs->d.N e w1 base ok' v xs:=by intro hx;(with_reducible repeat (first|apply Kd.N_alloc|apply Kd.N_drewN|apply Kd.edz));exact hx):d.N e w1 base ok' v xs:=hw (Kd.cnz h.out hok)
theorem vm_ (h:Aside0 (d.V e w base ok v xs)) (hok: ∀k,ok k->ok' k:=by intro _ hk;first|exact hk|exact trivial|((try simp only [and_assoc] at hk);(repeat (have h_:=hk.1;replace hk:=hk.2));((repeat' apply And.intro)<;>first|assumption|exact trivial|(simp [Value.ownBlock];done)))) (hw:d.V e w base ok' v xs->d.V e w1 base ok' v xs:=by intro hx;(with_reducible repeat (first|apply Kd.ccz|apply Kd.cdz|apply Kd.coz));exact hx):d.V e w1 base ok' v xs:=hw (Kd.b1z h.out hok)
theorem rm_ (h:Aside0 (d.R e w base ok v xs)) (hok: ∀k,ok k->ok' k:=by intro _ hk;first|exact hk|exact trivial|((try simp only [and_assoc] at hk);(repeat (have h_:=hk.1;replace hk:=hk.2));((repeat' apply And.intro)<;>first|assumption|exact trivial|(simp [Value.ownBlock];done)))) (hw:d.R e w base ok' v xs->d.R e w1 base ok' v xs:=by intro hx;(with_reducible repeat (first|apply Kd.c7z|apply Kd.dmz|apply Kd.c1z));exact hx):d.R e w1 base ok' v xs:=hw (Kd.aJz h.out hok)
theorem sm_ (h:Aside0 (d.S e w base ok v xs)) (hok: ∀k,ok k->ok' k:=by intro _ hk;first|exact hk|exact trivial|((try simp only [and_assoc] at hk);(repeat (have h_:=hk.1;replace hk:=hk.2));((repeat' apply And.intro)<;>first|assumption|exact trivial|(simp [Value.ownBlock];done)))) (hw:d.S e w base ok' v xs->d.S e w1 base ok' v xs:=by intro hx;(with_reducible repeat (first|apply Kd.S_alloc|apply Kd.S_drewN|apply Kd.S_drew));exact hx):d.S e w1 base ok' v xs:=hw (Kd.cGz h.out hok)
end
theorem Za {p:Prop} (h:p):Aside0 p:=⟨h⟩
theorem Zb {a b:Prop} (h:a) (k:b):a/\b:=⟨h,k⟩
theorem Zc {p:Prop} [Decidable p] (h:decide p=true):p:=of_decide_eq_true h
theorem Zd {p:Prop} [Decidable p] (h:p):decide p=true:=decide_eq_true h
theorem Ze {p:Prop} [Decidable p] (h: ¬p):decide p=false:=decide_eq_false h
theorem Zf {α:Type} {l:List α} {i:Nat} (h:i<l.length):l[i]?=some l[i] :=List.getElem?_eq_getElem h
theorem Zg {α:Type} (l:List α) (i:Nat) (a:α):l.toArray.setIfInBounds i a=(l.set i a).toArray:=List.setIfInBounds_toArray l i a
theorem Zh {α:Type} {x:α} {xs:List α} {a:α} :(x::xs).set 0 a=a::xs:=rfl
theorem Zi {α:Type} {x:α} {xs:List α} {n:Nat} {a:α} :(x::xs).set (n+1) a=x::xs.set n a:=rfl
theorem Zj (w:World) (a:Addr) {u:Value} (h:w.cell? a=some u):a.block<w.heap.size:=World.block_lt_of_cell? w a h
theorem Zk {α:Type} {l:List α} {i:Nat} {a:α} (h:l[i]?=some a): ∃h:i<l.length,l[i] =a:=List.getElem?_eq_some_iff.1 h
theorem Zl {α β:Type} (a:α) (f:α->Option β):(some a).bind f=f a:=rfl
theorem Zm {α:Type} {l:List α} {i:Nat} {a:α} :l.getD i a=l[i]?.getD a:=List.getD_eq_getElem?_getD
theorem Zn {α:Type} {a b:α} (h:some a=some b):a=b:=Option.some.inj h
theorem Zo {α:Type} {l:List α} {i:Nat} {a:α} (h:l[i]?=some a):a∈l:=List.mem_of_getElem? h
theorem Zp {n m k:Nat} (h:n<m) (g:m<=k):n<k:=Nat.lt_of_lt_of_le h g
theorem Zq {α:Type} [BEq α] [LawfulBEq α] {a b:α} (h:a≠b):(a==b)=false:=beq_eq_false_iff_ne.mpr h
theorem Zr {b:Bool} (h:b≠true):b=false:=Bool.eq_false_iff.mpr h
theorem Zt {n m k:Nat} (h:n<=m) (g:m<=k):n<=k:=Nat.le_trans h g
theorem Zu (n:Nat):(n:Int).toNat=n:=Int.toNat_natCast n
theorem Zv (n:Nat):n<=n:=Nat.le_refl n
theorem Zw (n:Nat) (w:World):Below n w w:=Below.refl n w
theorem Zx {α:Type} (a b:α):(some a=some b)=(a=b):=Option.some.injEq a b
theorem Zy {α β:Type} (a:α) (b:β) (c:α) (d:β):((a,b)=(c,d))=(a=c/\b=d):=Prod.mk.injEq a b c d
theorem Zz {p:Prop} (h:p):p=True:=eq_true h
theorem Ya {c:Prop} {h:Decidable c} (hc:c) {α:Sort _} {t e:α} :ite c t e=t:=if_pos hc
theorem Yb {c:Prop} {h:Decidable c} (hc: ¬c) {α:Sort _} {t e:α} :ite c t e=e:=if_neg hc
theorem Yc {α:Type} [BEq α] [LawfulBEq α] {a b:α} (h:a=b):(a !=b)=false:=bne_eq_false_iff_eq.mpr h
theorem Yd {α:Type} [BEq α] [LawfulBEq α] {a b:α} (h:a≠b):(a !=b)=true:=bne_iff_ne.mpr h
theorem Ye {α:Type} [BEq α] [LawfulBEq α] {a b:α} (h:a=b):(a==b)=true:=beq_iff_eq.mpr h
theorem Yg {α:Type} (x:Option α):LeO x x:=LeO.refl x
theorem Yh {α:Type} (x:Option α):LeO none x:=LeO.none x
theorem Yi {α:Type} {c:Prop} [Decidable c] {a a' b b':Option α} (h1:LeO a a') (h2:LeO b b'):LeO (if c then a else b) (if c then a' else b'):=LeO.ite h1 h2
theorem Yj {α β:Type} {a a':Option α} {f f':α->Option β} (h:LeO a a') (g: ∀x,LeO (f x) (f' x)):LeO (a.bind f) (a'.bind f'):=LeO.bind h g
theorem Yf {a b:Prop} (h:a) (k: ¬a):b:=absurd h k
end Go.Proofs.Xc
end
section
namespace Go.Proofs.Xc
open Go.RowKit Go.Proofs.Pw Go.Proofs.Pl Go.Proofs.Pm
attribute [local go_sem] a7z a8z bjz bkz aZz a0z a9z baz
mutual
def aBz.l0:Nat->List (List Int)->Int->Option (Bool)
 |0,_,_=>none
 |k+1,x0,x3=>if x3<(x0.length:Int) then (aBz.j1 k x0 x3 (decide (x3<13))) else (aBz.j1 k x0 x3 false)
def aBz.j1:Nat->List (List Int)->Int->Bool->Option (Bool)
 |0,_,_,_=>none
 |k+1,x0,x3,x11=>if x11=true then (if 0<=x3 then (if x3<(x0.length:Int) then (if ((rd_L1 x0 x3).length:Int)>300 then (some false) else (aBz.l0 k x0 (wrap64 (x3+1)))) else (none)) else (none)) else (some (decide ((x0.length:Int)<=12)))
end
def aBz.f (k:Nat) (l0:List (List Int)):Option (Bool):=aBz.l0 k l0 0
theorem aBz.calls (k : Nat) (A0 : Option Addr) (c0 : Nat) (l0 : List (List Int)) (r : Bool) (w : World) (hr0 : Kd.C (Kd.slice 5 (Kd.int .u8)) w A0 l0.length l0) (hc0 : l0.length <= c0) (h : aBz.f k l0 = some r) :
  Calls Tryz.prog 18 #[.slice A0 l0.length c0] w fun e w'=>e= .returned (.bool r)/\Drawn0 w w':=by
 have HR0:=Za hr0;have HC0:=Za hc0;clear hr0 hc0;have H:=h;clear h;unfold aBz.f at H;have H':=Za H;clear H;go_enter Tryz.func18,Tryz.ntmps18;go_wp2
 go_loopg [3] k (fun kq v3 w'=> ∃(x3_1:Int),v3= .int .i64 x3_1/\Aside0 (aBz.l0 kq l0 x3_1=some r)/\Aside0 (kq<=k)/\Drawn0 w w')
 case atStart=>exact ⟨(0),sd_,H',⟨Zv _⟩,dn_⟩
 clear H';obtain ⟨x3_1,rfl,HA,HK1,⟨m1,rfl⟩⟩:=hrel;rcases gk with _|k1
 ·exact Yf HA.out (by simp [aBz.l0])
 have H:=HA.out;clear HA;simp only [aBz.l0] at H;have HC2:=Za H;clear H
 go_upto_region 2 with (fail)
 go_cut [11] (fun v11 wc=> ∃(kq:Nat) (x11_1:Bool),v11= .bool x11_1/\Aside0 (aBz.j1 kq l0 x3_1 x11_1=some r)/\Aside0 (kq<=k1)/\Drawn0 w wc)
 case first=>
  have H:=HC2.out;clear HC2;by_cases c3:x3_1<(l0.length:Int)
  ·rw [Ya c3] at H;have c3b0:=Zd c3;clear c3;have H':=Za H;clear H;go_wp2
   go_meet
   case rel=>exact ⟨_,(decide (x3_1<13)),sd_,H',⟨by have:=HK1.out;first|omega|exact Zv _⟩,dn_⟩
  ·rw [Yb c3] at H;have c3b0:=Ze c3;clear c3;have H':=Za H;clear H;go_wp2
   go_meet
   case rel=>exact ⟨_,(false),sd_,H',⟨by have:=HK1.out;first|omega|exact Zv _⟩,dn_⟩
 case rest=>
  clear HC2;obtain ⟨kq,x11_1,rfl,HA,HJ1,⟨mc1,rfl⟩⟩:=hcut;rcases kq with _|kj1
  ·exact Yf HA.out (by simp [aBz.j1])
  have H:=HA.out;clear HA;simp only [aBz.j1] at H;by_cases c4:x11_1=true
  rotate_left
  ·replace c4:=Zr c4;subst c4;rw [Yb (show¬(false=true) by decide)] at H;obtain rfl:=Zn H;go_wp2;go_ret;exact ⟨sd_,dn_⟩
  subst c4;rw [Ya rfl] at H;by_cases c5:0<=x3_1
  rotate_left
  ·rw [Yb c5] at H;exact Yf H (by simp)
  rw [Ya c5] at H;have c5b0:=Zd c5;clear c5;by_cases c6:x3_1<(l0.length:Int)
  rotate_left
  ·rw [Yb c6] at H;exact Yf H (by simp)
  rw [Ya c6] at H;have c6b0:=Zd c6;clear c6;by_cases c7:((rd_L1 l0 x3_1).length:Int)>300
  ·rw [Ya c7] at H;have c7b0:decide (300<((rd_L1 l0 x3_1).length:Int))=true:=Zd c7;have c7b1:decide (300<(rd_L1 l0 x3_1).length)=true:=Zd (by omega);clear c7;obtain rfl:=Zn H;have p127:0<=(x3_1:Int):=Zc as_;have q127:x3_1<(l0.length:Int):=Zc as_;obtain ⟨_,A127_0,c127_0,e127,hx127_0,hl127_0,hi127_0⟩:=at_L1 HR0.out x3_1 p127 q127;cases e127
   have HR127_0:=Za hi127_0;have HC127_0:=Za hl127_0;clear hi127_0 hl127_0;replace p127:=Zz p127;replace q127:=Zz q127;go_wp2;go_ret;exact ⟨sd_,dn_⟩
  ·rw [Yb c7] at H;have c7b0:decide (300<((rd_L1 l0 x3_1).length:Int))=false:=Ze c7;have c7b1:decide (300<(rd_L1 l0 x3_1).length)=false:=Ze (by omega);clear c7;have H':=Za H;clear H;have p127:0<=(x3_1:Int):=Zc as_;have q127:x3_1<(l0.length:Int):=Zc as_;obtain ⟨_,A127_0,c127_0,e127,hx127_0,hl127_0,hi127_0⟩:=at_L1 HR0.out x3_1 p127 q127;cases e127
   have HR127_0:=Za hi127_0;have HC127_0:=Za hl127_0;clear hi127_0 hl127_0;replace p127:=Zz p127;replace q127:=Zz q127;go_wp2
   go_roundg kj1
   case measure=>have:=HK1.out;have:=HJ1.out;omega
   case rel=>exact ⟨(wrap64 (x3_1+1)),sd_,H',⟨by have:=HK1.out;have:=HJ1.out;omega⟩,dn_⟩
def a4z.f (a0:Int):Option (ByteArray×Int×Int×Int×Int×Bool):=if a0=1 then (some ((⟨#[106,118]⟩:ByteArray),8,285,106,4,true)) else (if a0=2 then (some ((⟨#[106,99]⟩:ByteArray),16,69643,106,4,true)) else (if a0=3 then (some ((⟨#[105,114]⟩:ByteArray),8,285,105,3,true)) else (if a0=4 then (some ((⟨#[105,99]⟩:ByteArray),8,285,105,4,true)) else (if a0=5 then (some ((⟨#[98,98]⟩:ByteArray),8,285,98,4,true)) else (if a0=6 then (some ((⟨#[107,112]⟩:ByteArray),8,285,112,4,true)) else (some ((⟨#[]⟩:ByteArray),0,0,0,0,false)))))))
theorem a4z.calls (a0:Int) (r1:ByteArray) (r2:Int) (r3:Int) (r4:Int) (r5:Int) (r6:Bool) (w:World) (h:a4z.f a0=some (r1,r2,r3,r4,r5,r6)):
 Calls Tryz.prog 50 #[.int .i64 a0] w fun e w'=>e= .returned (.tuple #[.agg #[.string r1, .int .i64 r2, .int .u32 r3, .int .u8 r4, .int .i64 r5], .bool r6])/\Below w.heap.size w w':=by
 have hu79:=Tryz.underlying79;have HB:=Za (Zw w.heap.size w);have HH:=Za h;clear h;go_enter Tryz.func50,Tryz.ntmps50
 go_wp2_with (first|((with_reducible refine blz (N:=2) rfl ?_);refine cxz ?hg (N:=2) ?hd (cs:= #[.string (⟨#[]⟩:ByteArray), .int .i64 0, .int .u32 0, .int .u8 0, .int .i64 0]) (t:=79) ?hr ?_;(case hd=>rfl);(case hg=>rfl);(case hr=>first|(go_simp;done)|(go_simp;rfl));intro gb135 hg w3 hbox hb;have n_:=Zb (hs_ HB hb) (Zb (Za (hbox)) (Zb (ag_ HB gb135) (ag_ HB gb135)));clear HB;obtain ⟨HB,BK135,GW135,GE135⟩:=n_;clear hb hbox hg;obtain ⟨_,_,_,_,_,_,_,_,_,_⟩:=bc5_ BK135.out))
 all_goals
  have H:=HH.out;unfold a4z.f at H;refine bodyPost_ret (results_ct rfl _ _ gb135 79 _ (0,0) _ rfl (by first|exact bp5_4 (bp5_3 (bp5_2 (bp5_1 (bp5_0 BK135.out))))|exact BK135.out) Tryz.underlying79 rfl kr_) rfl ?_;refine ⟨?_,bl_⟩
  simp_all
 all_goals (obtain ⟨rfl,rfl,rfl,rfl,rfl,rfl⟩:=H;simp)
def a5z.l0:Nat->List (List Int)->Int->ByteArray->Int->Int->Int->Int->Option (Bool)
 |0,_,_,_,_,_,_,_=>none
 |k+1,x1,x7,x136000,x136001,x136002,x136003,x136004=>if x7<(x1.length:Int) then (if 0<=x7 then (if 0<(x1.length:Int) then (if ((rd_L1 x1 x7).length:Int)=((rd_L1 x1 0).length:Int) then (if x136001=0 then (none) else (if (Int.tmod (wrap64 (8*((rd_L1 x1 x7).length:Int))) x136001)=0 then (a5z.l0 k x1 (wrap64 (x7+1)) x136000 x136001 x136002 x136003 x136004) else (some false))) else (some false)) else (none)) else (none)) else (some true)
def a5z.f (k:Nat) (a0_0:Int) (a0_1:Int) (a0_2:Int) (l1:List (List Int)):Option (Bool):=(a4z.f a0_0).bind fun bt129=>(a5z.l0 k l1 0 bt129.1 bt129.2.1 bt129.2.2.1 bt129.2.2.2.1 bt129.2.2.2.2.1)
theorem a5z.calls (k : Nat) (a0_0 : Int) (a0_1 : Int) (a0_2 : Int) (A1 : Option Addr) (c1 : Nat) (l1 : List (List Int)) (r : Bool) (w : World) (hr1 : Kd.C (Kd.slice 5 (Kd.int .u8)) w A1 l1.length l1) (hc1 : l1.length <= c1) (h : a5z.f k a0_0 a0_1 a0_2 l1 = some r) :
  Calls Tryz.prog 49 #[.agg #[.int .i64 a0_0, .int .i64 a0_1, .int .i64 a0_2], .slice A1 l1.length c1] w fun e w'=>e= .returned (.bool r)/\Below w.heap.size w w':=by
 have hu23:=Tryz.underlying23;have hu79:=Tryz.underlying79;have HR1:=Za hr1;have HC1:=Za hc1;clear hr1 hc1;have HB:=Za (Zw w.heap.size w);have H:=h;clear h;unfold a5z.f at H;obtain ⟨⟨t129,t130,t131,t132,t133,t134⟩,A3,H⟩:=ob_ H
 (try dsimp only at H)
 have H':=Za H;clear H;go_enter Tryz.func49,Tryz.ntmps49
 go_wp2_with (first|((with_reducible refine blz (N:=2) rfl ?_);(try (refine aYz (by rfl) ?_;dsimp only));refine bx_ 2 #[.int .i64 a0_0, .int .i64 a0_1, .int .i64 a0_2] 23 ?_;intro gb128 hg w4 hbox hb;have n_:=Zb (hs_ HB hb) (Zb (Za (hbox)) (Zb (ag_ HB gb128) (ag_ HB gb128)));clear HB;obtain ⟨HB,BK128,GW128,GE128⟩:=n_;clear hb hbox hg;obtain ⟨hcz5_0,hfz5_0,hcz5_1,hfz5_1,hcz5_2,hfz5_2⟩:=bc3_ BK128.out)|(go_at_call 50;(with_reducible refine (a4z.calls a0_0 t129 t130 t131 t132 t133 t134 _ A3.out).mono ?_);rintro e w6 ⟨rfl,hb⟩;have n_:=Zb (bb_ BK128 hb) (hs_ HB hb);clear BK128 HB;obtain ⟨BK128,HB⟩:=n_;(try clear hb))|((with_reducible refine blz (N:=5) rfl ?_);(try (refine aYz (by rfl) ?_;dsimp only));refine cxz ?hg (N:=5) ?hd (cs:= #[.string (⟨#[]⟩:ByteArray), .int .i64 0, .int .u32 0, .int .u8 0, .int .i64 0]) (t:=79) ?hr ?_;(case hd=>rfl);(case hg=>rfl);(case hr=>first|(go_simp;done)|(go_simp;rfl));intro gb135 hg w7 hbox hb;have n_:=Zb (bb_ BK128 hb) (Zb (hs_ HB hb) (Zb (Za (hbox)) (Zb (ag_ HB gb135) (Zb (ag_ HB gb135) (Zb (n1_ BK128 gb135) (n2_ BK128 gb135))))));clear BK128 HB;obtain ⟨BK128,HB,BK135,GW135,GE135,NB128_135,NB135_128⟩:=n_;clear hb hbox hg;have hnb8:=NB135_128.out;have hnc8:=NB128_135.out;obtain ⟨hcz9_0,hfz9_0,hcz9_1,hfz9_1,hcz9_2,hfz9_2,hcz9_3,hfz9_3,hcz9_4,hfz9_4⟩:=bc5_ BK135.out))
 go_loopg [7] k (fun kq v7 w'=> ∃(x7_1:Int),v7= .int .i64 x7_1/\Aside0 (a5z.l0 kq l1 x7_1 t129 t130 t131 t132 t133=some r)/\Aside0 (kq<=k)/\Aside0 (w'.heap[gb128]?=some (.cells #[.int .i64 a0_0, .int .i64 a0_1, .int .i64 a0_2] 23 (0,0)))/\Aside0 (w'.heap[gb135]?=some (.cells #[.string t129, .int .i64 t130, .int .u32 t131, .int .u8 t132, .int .i64 t133] 79 (0,0)))/\Aside0 (Below w.heap.size w w'))
 case atStart=>exact ⟨(0),sd_,H',⟨Zv _⟩,⟨kb_⟩,⟨kb_⟩,⟨bl_⟩⟩
 clear H';clear hcz5_0 hcz5_1 hcz5_2 hcz9_0 hcz9_1 hcz9_2 hcz9_3 hcz9_4 hfz5_0 hfz5_1 hfz5_2 hfz9_0 hfz9_1 hfz9_2 hfz9_3 hfz9_4;obtain ⟨x7_1,rfl,HA,HK1,BK128,BK135,HB⟩:=hrel;rcases gk with _|k1
 ·exact Yf HA.out (by simp [a5z.l0])
 have H:=HA.out;clear HA;simp only [a5z.l0] at H;by_cases c10:x7_1<(l1.length:Int)
 rotate_left
 ·rw [Yb c10] at H;have c10b0:=Ze c10;clear c10;obtain rfl:=Zn H;go_wp2
  repeat (go_quiet (fail);try go_wp2)
  go_ret;exact ⟨er_,bl_⟩
 rw [Ya c10] at H;have c10b0:=Zd c10;clear c10;by_cases c11:0<=x7_1
 rotate_left
 ·rw [Yb c11] at H;exact Yf H (by simp)
 rw [Ya c11] at H;have c11b0:=Zd c11;clear c11;by_cases c12:0<(l1.length:Int)
 rotate_left
 ·rw [Yb c12] at H;exact Yf H (by simp)
 rw [Ya c12] at H;have c12b0:=Zd c12;have c12b1:decide (0<l1.length)=true:=Zd (by omega);clear c12;by_cases c13:((rd_L1 l1 x7_1).length:Int)=((rd_L1 l1 0).length:Int)
 rotate_left
 ·rw [Yb c13] at H;have c13b0:(((rd_L1 l1 x7_1).length:Int)==((rd_L1 l1 0).length:Int))=false:=Zq c13;have c13b1:(((rd_L1 l1 x7_1).length:Int) !=((rd_L1 l1 0).length:Int))=true:=Yd c13
  have c13b2:((rd_L1 l1 x7_1).length==(rd_L1 l1 0).length)=false:=by first|simpa using c13|(simp at c13|-;omega)
  obtain rfl:=Zn H;have p136:0<=(x7_1:Int):=Zc as_;have q136:x7_1<(l1.length:Int):=Zc as_;obtain ⟨ad136,A136_0,c136_0,e136,hx136_0,hl136_0,hi136_0⟩:=at_L1 HR1.out x7_1 p136 q136;cases e136
  replace hx136_0:=(HB.out.cell (Zj w _ hx136_0)).trans hx136_0;have HR136_0:=Za hi136_0;have HC136_0:=Za hl136_0;clear hi136_0 hl136_0;replace p136:=Zz p136;replace q136:=Zz q136;have p137:0<=(0:Int):=(by omega);have q137:0<(l1.length:Int):=Zc as_;obtain ⟨ad137,A137_0,c137_0,e137,hx137_0,hl137_0,hi137_0⟩:=at_L1 HR1.out 0 p137 q137;obtain rfl:ad136=ad137:=(by injection e137);have qi137:(0<l1.length)=True:=Zz (by omega)
  (try rw [show ((0:Int)).toNat=0 from rfl] at hx137_0)
  (try rw [Addr.add_zero'] at hx137_0)
  replace hx137_0:=(HB.out.cell (Zj w _ hx137_0)).trans hx137_0;have HR137_0:=Za hi137_0;have HC137_0:=Za hl137_0;clear hi137_0 hl137_0;replace p137:=Zz p137;replace q137:=Zz q137;go_wp2
  repeat (go_quiet (fail);try go_wp2)
  go_ret;exact ⟨er_,bl_⟩
 rw [Ya c13] at H;have c13b0:(((rd_L1 l1 x7_1).length:Int)==((rd_L1 l1 0).length:Int))=true:=Ye c13;have c13b1:(((rd_L1 l1 x7_1).length:Int) !=((rd_L1 l1 0).length:Int))=false:=Yc c13
 have c13b2:((rd_L1 l1 x7_1).length==(rd_L1 l1 0).length)=true:=by first|simpa using c13|(simp at c13|-;omega)
 clear c13;by_cases c14:t130=0
 ·rw [Ya c14] at H;exact Yf H (by simp)
 ·rw [Yb c14] at H;have c14b0:(t130==0)=false:=Zq c14;have c14b1:(t130 !=0)=true:=Yd c14;by_cases c15:(Int.tmod (wrap64 (8*((rd_L1 l1 x7_1).length:Int))) t130)=0
  rotate_left
  ·rw [Yb c15] at H;have c15b0:((Int.tmod (wrap64 (8*((rd_L1 l1 x7_1).length:Int))) t130)==0)=false:=Zq c15;have c15b1:((Int.tmod (wrap64 (8*((rd_L1 l1 x7_1).length:Int))) t130) !=0)=true:=Yd c15;obtain rfl:=Zn H;have p136:0<=(x7_1:Int):=Zc as_;have q136:x7_1<(l1.length:Int):=Zc as_;obtain ⟨ad136,A136_0,c136_0,e136,hx136_0,hl136_0,hi136_0⟩:=at_L1 HR1.out x7_1 p136 q136;cases e136
   replace hx136_0:=(HB.out.cell (Zj w _ hx136_0)).trans hx136_0;have HR136_0:=Za hi136_0;have HC136_0:=Za hl136_0;clear hi136_0 hl136_0;replace p136:=Zz p136;replace q136:=Zz q136;have p137:0<=(0:Int):=(by omega);have q137:0<(l1.length:Int):=Zc as_;obtain ⟨ad137,A137_0,c137_0,e137,hx137_0,hl137_0,hi137_0⟩:=at_L1 HR1.out 0 p137 q137;obtain rfl:ad136=ad137:=(by injection e137);have qi137:(0<l1.length)=True:=Zz (by omega)
   (try rw [show ((0:Int)).toNat=0 from rfl] at hx137_0)
   (try rw [Addr.add_zero'] at hx137_0)
   replace hx137_0:=(HB.out.cell (Zj w _ hx137_0)).trans hx137_0;have HR137_0:=Za hi137_0;have HC137_0:=Za hl137_0;clear hi137_0 hl137_0;replace p137:=Zz p137;replace q137:=Zz q137;have p138:0<=(x7_1:Int):=Zc as_;have q138:x7_1<(l1.length:Int):=Zc as_;obtain ⟨ad138,A138_0,c138_0,e138,hx138_0,hl138_0,hi138_0⟩:=at_L1 HR1.out x7_1 p138 q138;obtain rfl:ad136=ad138:=(by injection e138);replace hx138_0:=(HB.out.cell (Zj w _ hx138_0)).trans hx138_0;have HR138_0:=Za hi138_0;have HC138_0:=Za hl138_0;clear hi138_0 hl138_0;replace p138:=Zz p138;replace q138:=Zz q138;have ea_:=Zn (hx136_0.symm.trans hx138_0);injection ea_ with ea_ en_ ec_
   subst ea_;subst ec_;clear en_;have hnb18:=NB135_128.out;have hnc18:=NB128_135.out;obtain ⟨_,_,_,_,_,_,_,_,_,_⟩:=bc5_ BK135.out;go_wp2
   repeat (go_quiet (fail);try go_wp2)
   go_ret;exact ⟨er_,bl_⟩
  rw [Ya c15] at H;have c15b0:((Int.tmod (wrap64 (8*((rd_L1 l1 x7_1).length:Int))) t130)==0)=true:=Ye c15;have c15b1:((Int.tmod (wrap64 (8*((rd_L1 l1 x7_1).length:Int))) t130) !=0)=false:=Yc c15;clear c15;have H':=Za H;clear H;have p136:0<=(x7_1:Int):=Zc as_;have q136:x7_1<(l1.length:Int):=Zc as_;obtain ⟨ad136,A136_0,c136_0,e136,hx136_0,hl136_0,hi136_0⟩:=at_L1 HR1.out x7_1 p136 q136;cases e136
  replace hx136_0:=(HB.out.cell (Zj w _ hx136_0)).trans hx136_0;have HR136_0:=Za hi136_0;have HC136_0:=Za hl136_0;clear hi136_0 hl136_0;replace p136:=Zz p136;replace q136:=Zz q136;have p137:0<=(0:Int):=(by omega);have q137:0<(l1.length:Int):=Zc as_;obtain ⟨ad137,A137_0,c137_0,e137,hx137_0,hl137_0,hi137_0⟩:=at_L1 HR1.out 0 p137 q137;obtain rfl:ad136=ad137:=(by injection e137);have qi137:(0<l1.length)=True:=Zz (by omega)
  (try rw [show ((0:Int)).toNat=0 from rfl] at hx137_0)
  (try rw [Addr.add_zero'] at hx137_0)
  replace hx137_0:=(HB.out.cell (Zj w _ hx137_0)).trans hx137_0;have HR137_0:=Za hi137_0;have HC137_0:=Za hl137_0;clear hi137_0 hl137_0;replace p137:=Zz p137;replace q137:=Zz q137;have p138:0<=(x7_1:Int):=Zc as_;have q138:x7_1<(l1.length:Int):=Zc as_;obtain ⟨ad138,A138_0,c138_0,e138,hx138_0,hl138_0,hi138_0⟩:=at_L1 HR1.out x7_1 p138 q138;obtain rfl:ad136=ad138:=(by injection e138);replace hx138_0:=(HB.out.cell (Zj w _ hx138_0)).trans hx138_0;have HR138_0:=Za hi138_0;have HC138_0:=Za hl138_0;clear hi138_0 hl138_0;replace p138:=Zz p138;replace q138:=Zz q138;have ea_:=Zn (hx136_0.symm.trans hx138_0);injection ea_ with ea_ en_ ec_
  subst ea_;subst ec_;clear en_;have hnb16:=NB135_128.out;have hnc16:=NB128_135.out;obtain ⟨_,_,_,_,_,_,_,_,_,_⟩:=bc5_ BK135.out;go_wp2
  repeat (go_quiet (fail);try go_wp2)
  go_roundg k1
  case measure=>have:=HK1.out;omega
  case rel=>exact ⟨(wrap64 (x7_1+1)),sd_,H',⟨by have:=HK1.out;omega⟩,⟨bk_⟩,⟨bk_⟩,⟨bl_⟩⟩
mutual
def aiz.l0:Nat->Int->List (List Int)->Int->Option ((List (List Int)))
 |0,_,_,_=>none
 |k+1,x0,x3,x4=>if x4<x0 then (aiz.j1 k x0 x3 x4 (decide (x0<=20))) else (aiz.j1 k x0 x3 x4 false)
def aiz.j1:Nat->Int->List (List Int)->Int->Bool->Option ((List (List Int)))
 |0,_,_,_,_=>none
 |k+1,x0,x3,x4,x14=>if x14=true then (aiz.l1 k x0 x3 x4 ([] :List Int) 0) else (some x3)
def aiz.l1:Nat->Int->List (List Int)->Int->List Int->Int->Option ((List (List Int)))
 |0,_,_,_,_,_=>none
 |k+1,x0,x3,x4,x5,x6=>if x6<x0 then (if x4=x6 then (if x5.length<17592186044416 then (aiz.l1 k x0 x3 x4 (x5++ [1]) (wrap64 (x6+1))) else (none)) else (if x5.length<17592186044416 then (aiz.l1 k x0 x3 x4 (x5++ [0]) (wrap64 (x6+1))) else (none))) else (if x3.length<5864062014805 then (aiz.l0 k x0 (x3++ [x5]) (wrap64 (x4+1))) else (none))
end
def aiz.f (k:Nat) (a0:Int):Option ((List (List Int))):=aiz.l0 k a0 ([] :List (List Int)) 0
theorem aiz.aVz: ∀k,(∀y0 y1 y2,LeO (aiz.l0 k y0 y1 y2) (aiz.l0 (k+1) y0 y1 y2))/\(∀y0 y1 y2 y3,LeO (aiz.j1 k y0 y1 y2 y3) (aiz.j1 (k+1) y0 y1 y2 y3))/\(∀y0 y1 y2 y3 y4,LeO (aiz.l1 k y0 y1 y2 y3 y4) (aiz.l1 (k+1) y0 y1 y2 y3 y4))
 |0=>⟨fun _ _ _ r h=>by simp [aiz.l0] at h,fun _ _ _ _ r h=>by simp [aiz.j1] at h,fun _ _ _ _ _ r h=>by simp [aiz.l1] at h⟩
 |k+1=>by
  obtain ⟨ih0,ih1,ih2⟩:=aiz.aVz k;refine ⟨?_,?_,?_⟩
  ·intro y0 y1 y2;unfold aiz.l0
   repeat' with_reducible first|apply ih0|apply ih1|apply ih2|apply Yg|apply Yh|apply Yi|refine Yj ?_ fun _=>?_
  ·intro y0 y1 y2 y3;unfold aiz.j1
   repeat' with_reducible first|apply ih0|apply ih1|apply ih2|apply Yg|apply Yh|apply Yi|refine Yj ?_ fun _=>?_
  ·intro y0 y1 y2 y3 y4;unfold aiz.l1
   repeat' with_reducible first|apply ih0|apply ih1|apply ih2|apply Yg|apply Yh|apply Yi|refine Yj ?_ fun _=>?_
theorem aiz.mono: ∀a0 k,LeO (aiz.f k a0) (aiz.f (k+1) a0):=by
 intro a0 k;obtain ⟨ih0,ih1,ih2⟩:=aiz.aVz k;unfold aiz.f
 repeat' with_reducible first|apply ih0|apply ih1|apply ih2|apply Yg|apply Yh|apply Yi|refine Yj ?_ fun _=>?_
theorem aiz.calls (k : Nat) (a0 : Int) (r : List (List Int)) (w : World) (h : aiz.f k a0 = some r) :
  Calls Tryz.prog 62 #[.int .i64 a0] w fun e w'=> ∃v0_:Value,e= .returned (v0_)/\Kd.S (Kd.slice 3 (Kd.int .i64)) 57 w' w.heap.size (fun _=>True) v0_ r/\Below w.heap.size w w':=by
 have HB:=Za (Zw w.heap.size w);have H:=h;clear h;unfold aiz.f at H;have H':=Za H;clear H;go_enter Tryz.func62,Tryz.ntmps62;go_wp2
 go_loopg [3,4] k (fun kq v3 v4 w'=> ∃(x3_1:List (List Int)) (x4_1:Int),v4= .int .i64 x4_1/\Aside0 (aiz.l0 kq a0 x3_1 x4_1=some r)/\Aside0 (kq<=k)/\Aside0 (Kd.S (Kd.slice 3 (Kd.int .i64)) 57 w' w.heap.size (fun _=>True) v3 x3_1)/\Aside0 (Below w.heap.size w w'))
 case atStart=>exact ⟨(([] :List (List Int))),(0),sd_,H',⟨Zv _⟩,⟨nl_⟩,⟨bl_⟩⟩
 clear H';obtain ⟨x3_1,x4_1,rfl,HA,HK1,HO_3,HB⟩:=hrel;rcases gk with _|k1
 ·exact Yf HA.out (by simp [aiz.l0])
 have H:=HA.out;clear HA;simp only [aiz.l0] at H;have HC2:=Za H;clear H
 go_upto_region 3 with (fail)
 go_cut [14] (fun v14 wc=> ∃(kq:Nat) (x14_1:Bool),v14= .bool x14_1/\Aside0 (aiz.j1 kq a0 x3_1 x4_1 x14_1=some r)/\Aside0 (kq<=k1)/\Aside0 (Kd.S (Kd.slice 3 (Kd.int .i64)) 57 wc w.heap.size (fun _=>True) u3 x3_1)/\Aside0 (Below w.heap.size w wc))
 case first=>
  have H:=HC2.out;clear HC2;by_cases c3:x4_1<a0
  ·rw [Ya c3] at H;have c3b0:=Zd c3;clear c3;have H':=Za H;clear H;go_wp2
   go_meet
   case rel=>exact ⟨_,(decide (a0<=20)),sd_,H',⟨by have:=HK1.out;first|omega|exact Zv _⟩,⟨xd_ HO_3.out⟩,⟨bl_⟩⟩
  ·rw [Yb c3] at H;have c3b0:=Ze c3;clear c3;have H':=Za H;clear H;go_wp2
   go_meet
   case rel=>exact ⟨_,(false),sd_,H',⟨by have:=HK1.out;first|omega|exact Zv _⟩,⟨xd_ HO_3.out⟩,⟨bl_⟩⟩
 case rest=>
  clear HC2;obtain ⟨kq,x14_1,rfl,HA,HJ1,HO_3,HB⟩:=hcut;rcases kq with _|kj1
  ·exact Yf HA.out (by simp [aiz.j1])
  have H:=HA.out;clear HA;simp only [aiz.j1] at H;by_cases c4:x14_1=true
  rotate_left
  ·replace c4:=Zr c4;subst c4;rw [Yb (show¬(false=true) by decide)] at H;obtain rfl:=Zn H;go_wp2;go_ret;exact ⟨_,er_,xd_ HO_3.out,bl_⟩
  subst c4;rw [Ya rfl] at H;have H':=Za H;clear H;go_wp2
  go_loopg [5,6] kj1 (fun kq v5 v6 w'=> ∃(x5_3:List Int) (x6_3:Int),v6= .int .i64 x6_3/\Aside0 (aiz.l1 kq a0 x3_1 x4_1 x5_3 x6_3=some r)/\Aside0 (kq<=kj1)/\Aside0 (Kd.S (Kd.slice 3 (Kd.int .i64)) 57 w' w.heap.size (fun k_=>some k_≠(v5:Value).ownBlock) u3 x3_1)/\Aside0 (Kd.R (Kd.int .i64) 3 w' w.heap.size (fun _=>True) v5 x5_3)/\Aside0 (Below w.heap.size w w'))
  case atStart=>exact ⟨(([] :List Int)),(0),sd_,H',⟨Zv _⟩,⟨sm_ HO_3⟩,⟨nl_⟩,⟨bl_⟩⟩
  clear H';obtain ⟨x5_3,x6_3,rfl,HA,HK3,HO_3,HO_5,HB⟩:=hrel;rcases gk with _|k3
  ·exact Yf HA.out (by simp [aiz.l1])
  have H:=HA.out;clear HA;simp only [aiz.l1] at H;by_cases c5:x6_3<a0
  rotate_left
  ·rw [Yb c5] at H;have c5b0:=Ze c5;clear c5;by_cases c11:x3_1.length<5864062014805
   rotate_left
   ·rw [Yb c11] at H;exact Yf H (by simp)
   rw [Ya c11] at H;have LMc11:=Za c11;clear c11;obtain ⟨y145,hy145⟩: ∃y_:List (List Int),y_=(x3_1++ [x5_3]):=⟨_,rfl⟩
   first|rw [Zl, <-hy145] at H|rw [<-hy145] at H
   (try dsimp only at H)
   have Ny145:=Za hy145;clear hy145;have H':=Za H;clear H;obtain ⟨Ao13,co13,eo13⟩:=Kd.aRz HO_5.out;subst eo13
   go_wp2_with (first|((with_reducible refine anz (b:= .append) (xs:= #[.tmp 29, .tmp 31]) rfl ?_);at_builtin;refine Kd.bLz (Kd.slice 3 (Kd.int .i64)) (w0:=w) w.heap.size rfl (.tmp 29) (.tmp 31) 68 57 (.slice none 0 0) 24 rfl Tryz.underlying68 info57 rfl (by decide) (by omega) u3 x3_1 x5_3 [.slice Ao13 x5_3.length co13] (fun _=>True) (fun k_=>some k_=(.slice Ao13 x5_3.length co13:Value).ownBlock) rfl rfl ?aP (fun k_ hk_=>((Kd.aJz (ok':=fun k_=>((fun _=>True)) k_/\some k_≠(u3:Value).ownBlock) (Kd.brz (HO_5.out) (Kd.bNz HO_3.out) (by decide)) (fun k_ hk=>⟨trivial,hk.2⟩))).1 k_ hk_.symm) ?aF ?aO ?aB ?aS ?aL ?_;(case aP=>exact Kd.M_row (Kd.aJz (Kd.ciz rfl (Kd.aJz (ok':=fun k_=>((fun _=>True)) k_/\some k_≠(u3:Value).ownBlock) (Kd.brz (HO_5.out) (Kd.bNz HO_3.out) (by decide)) (fun k_ hk=>⟨trivial,hk.2⟩))) (fun _ h_=>h_)));(case aB=>exact bl_);(case aF=>exact (fun _ _=>trivial));(case aO=>exact (sm_ HO_3));(case aS=>exact (aez bl_));(case aL=>have:=LMc11.out;omega);intro v146 w12 ho hb hg hat;rw [<-Ny145.out] at ho;have n_:=Zb (Za (hb)) (Za (ho));clear HB HO_3 HO_5;obtain ⟨HB,HO147⟩:=n_;clear ho hb hg hat))
   go_roundg k3
   case measure=>have:=HK1.out;have:=HJ1.out;have:=HK3.out;omega
   case rel=>exact ⟨(y145),(wrap64 (x4_1+1)),sd_,H',⟨by have:=HK1.out;have:=HJ1.out;have:=HK3.out;omega⟩,⟨xd_ HO147.out⟩,⟨bl_⟩⟩
  rw [Ya c5] at H;have c5b0:=Zd c5;clear c5;by_cases c6:x4_1=x6_3
  rotate_left
  ·rw [Yb c6] at H;have c6b0:(x4_1==x6_3)=false:=Zq c6;have c6b1:(x4_1 !=x6_3)=true:=Yd c6;by_cases c9:x5_3.length<17592186044416
   rotate_left
   ·rw [Yb c9] at H;exact Yf H (by simp)
   rw [Ya c9] at H;have LMc9:=Za c9;clear c9;obtain ⟨y142,hy142⟩: ∃y_:List Int,y_=(x5_3++ [0]):=⟨_,rfl⟩
   first|rw [Zl, <-hy142] at H|rw [<-hy142] at H
   (try dsimp only at H)
   have Ny142:=Za hy142;clear hy142;have H':=Za H;clear H
   go_wp2_with (first|((with_reducible refine anz (b:= .append) (xs:= #[.tmp 25, .tmp 27]) rfl ?_);at_builtin;refine Kd.bxz (Kd.int .i64) (w0:=w) w.heap.size rfl (.tmp 25) (.tmp 27) 57 3 (.int .i64 0) 8 rfl Tryz.underlying57 info3 rfl (by decide) (by omega) u5 x5_3 0 [.int .i64 0] (fun _=>True) (fun _=>False) rfl rfl ?aP (fun _ hk=>hk.elim) ?aF ?aO ?aB ?aS ?aL ?_;(case aP=>exact rfl);(case aB=>exact bl_);(case aF=>exact (fun _ _=>trivial));(case aO=>exact (xd_ HO_5.out));(case aS=>exact (aez bl_));(case aL=>have:=LMc9.out;omega);intro v143 w10 ho hb hg hat;rw [<-Ny142.out] at ho;have n_:=Zb (Za (Kd.cYz (ok:=(fun _=>True)) (sm_ HO_3) hg hat)) (Zb (Za (hb)) (Za (ho)));clear HO_3 HB HO_5;obtain ⟨HO_3,HB,HO144⟩:=n_;clear ho hb hg hat))
   go_roundg k3
   case measure=>have:=HK1.out;have:=HJ1.out;have:=HK3.out;omega
   case rel=>exact ⟨(y142),(wrap64 (x6_3+1)),sd_,H',⟨by have:=HK1.out;have:=HJ1.out;have:=HK3.out;omega⟩,⟨sm_ HO_3⟩,⟨xd_ HO144.out⟩,⟨bl_⟩⟩
  rw [Ya c6] at H;have c6b0:(x4_1==x6_3)=true:=Ye c6;have c6b1:(x4_1 !=x6_3)=false:=Yc c6;clear c6;by_cases c7:x5_3.length<17592186044416
  rotate_left
  ·rw [Yb c7] at H;exact Yf H (by simp)
  rw [Ya c7] at H;have LMc7:=Za c7;clear c7;obtain ⟨y139,hy139⟩: ∃y_:List Int,y_=(x5_3++ [1]):=⟨_,rfl⟩
  first|rw [Zl, <-hy139] at H|rw [<-hy139] at H
  (try dsimp only at H)
  have Ny139:=Za hy139;clear hy139;have H':=Za H;clear H
  go_wp2_with (first|((with_reducible refine anz (b:= .append) (xs:= #[.tmp 25, .tmp 27]) rfl ?_);at_builtin;refine Kd.bxz (Kd.int .i64) (w0:=w) w.heap.size rfl (.tmp 25) (.tmp 27) 57 3 (.int .i64 0) 8 rfl Tryz.underlying57 info3 rfl (by decide) (by omega) u5 x5_3 1 [.int .i64 1] (fun _=>True) (fun _=>False) rfl rfl ?aP (fun _ hk=>hk.elim) ?aF ?aO ?aB ?aS ?aL ?_;(case aP=>exact rfl);(case aB=>exact bl_);(case aF=>exact (fun _ _=>trivial));(case aO=>exact (xd_ HO_5.out));(case aS=>exact (aez bl_));(case aL=>have:=LMc7.out;omega);intro v140 w8 ho hb hg hat;rw [<-Ny139.out] at ho;have n_:=Zb (Za (Kd.cYz (ok:=(fun _=>True)) (sm_ HO_3) hg hat)) (Zb (Za (hb)) (Za (ho)));clear HO_3 HB HO_5;obtain ⟨HO_3,HB,HO141⟩:=n_;clear ho hb hg hat))
  go_roundg k3
  case measure=>have:=HK1.out;have:=HJ1.out;have:=HK3.out;omega
  case rel=>exact ⟨(y139),(wrap64 (x6_3+1)),sd_,H',⟨by have:=HK1.out;have:=HJ1.out;have:=HK3.out;omega⟩,⟨sm_ HO_3⟩,⟨xd_ HO141.out⟩,⟨bl_⟩⟩
def atz.l0:Nat->Int->Int->Int->Option (Int)
 |0,_,_,_=>none
 |k+1,x0,x3,x4=>if x4<x0 then (atz.l0 k x0 (wrap64 (2*x3)) (wrap64 (x4+1))) else (some x3)
def atz.f (k:Nat) (a0:Int):Option (Int):=atz.l0 k a0 1 0
theorem atz.aVz: ∀k,(∀y0 y1 y2,LeO (atz.l0 k y0 y1 y2) (atz.l0 (k+1) y0 y1 y2))
 |0=>fun _ _ _ r h=>by simp [atz.l0] at h
 |k+1=>by
  have ih0:=atz.aVz k
  ·intro y0 y1 y2;unfold atz.l0
   repeat' with_reducible first|apply ih0|apply Yg|apply Yh|apply Yi|refine Yj ?_ fun _=>?_
theorem atz.mono: ∀a0 k,LeO (atz.f k a0) (atz.f (k+1) a0):=by
 intro a0 k;have ih0:=atz.aVz k;unfold atz.f
 repeat' with_reducible first|apply ih0|apply Yg|apply Yh|apply Yi|refine Yj ?_ fun _=>?_
theorem atz.calls (k : Nat) (a0 : Int) (r : Int) (w : World) (h : atz.f k a0 = some r) :
  Calls Tryz.prog 156 #[.int .i64 a0] w fun e w'=>e= .returned (.int .i64 r)/\Drawn0 w w':=by
 have H:=h;clear h;unfold atz.f at H;have H':=Za H;clear H;go_enter Tryz.func156,Tryz.ntmps156;go_wp2
 go_loopg [3,4] k (fun kq v3 v4 w'=> ∃(x3_1:Int) (x4_1:Int),v3= .int .i64 x3_1/\v4= .int .i64 x4_1/\Aside0 (atz.l0 kq a0 x3_1 x4_1=some r)/\Aside0 (kq<=k)/\Drawn0 w w')
 case atStart=>exact ⟨(1),(0),sd_,sd_,H',⟨Zv _⟩,dn_⟩
 clear H';obtain ⟨x3_1,x4_1,rfl,rfl,HA,HK1,⟨m1,rfl⟩⟩:=hrel;rcases gk with _|k1
 ·exact Yf HA.out (by simp [atz.l0])
 have H:=HA.out;clear HA;simp only [atz.l0] at H;by_cases c2:x4_1<a0
 ·rw [Ya c2] at H;have c2b0:=Zd c2;clear c2;have H':=Za H;clear H;go_wp2
  go_roundg k1
  case measure=>have:=HK1.out;omega
  case rel=>exact ⟨(wrap64 (2*x3_1)),(wrap64 (x4_1+1)),sd_,sd_,H',⟨by have:=HK1.out;omega⟩,dn_⟩
 ·rw [Yb c2] at H;have c2b0:=Ze c2;clear c2;obtain rfl:=Zn H;go_wp2;go_ret;exact ⟨sd_,dn_⟩
structure BB (w w':World) (g:Nat):Prop where
 os:w'.os=w.os
 tape:w'.tape=w.tape
 output:w'.output=w.output
 size:w.heap.size<=w'.heap.size
 block: ∀i,i<w.heap.size->i≠g->w'.heap[i]?=w.heap[i]?
theorem BB.of_below {w w':World} (h:Below w.heap.size w w') (g:Nat):BB w w' g:=⟨h.os,h.tape,h.output,h.size,fun i hi _=>h.block i hi⟩
theorem BB.refl (w:World) (g:Nat):BB w w g:=BB.of_below (Zw _ _) g
theorem BB.trans {a b c:World} {g:Nat} (h:BB a b g) (k:BB b c g):BB a c g:=
 ⟨k.os.trans h.os,k.tape.trans h.tape,k.output.trans h.output,Zt h.size k.size,fun i hi hg=>(k.block i (Zp hi h.size) hg).trans (h.block i hi hg)⟩
theorem BB.keep {w w':World} {g:Nat} (h:BB w w' g):KeepBut w w' g none:=⟨h.size,fun i hi hg _=>h.block i hi hg⟩
theorem BB.below {w0 w w':World} {g:Nat} (h:BB w w' g) (hB:Below w0.heap.size w0 w) (hg:w0.heap.size<=g):Below w0.heap.size w0 w':=
 ⟨h.os.trans hB.os,h.tape.trans hB.tape,h.output.trans hB.output,Zt hB.size h.size,fun i hi=>(h.block i (Zp hi hB.size) (by omega)).trans (hB.block i hi)⟩
theorem BB.drew {a b:World} {g:Nat} (h:BB a b g):BB a b.drew g:=⟨h.os,h.tape,h.output,h.size,h.block⟩
theorem BB.drewN {a b:World} {g:Nat} (h:BB a b g) (n:Nat):BB a (b.drewN n) g:=⟨h.os,h.tape,h.output,h.size,h.block⟩
theorem BB.alloc {a b:World} {g:Nat} (h:BB a b g) (o:Obj):BB a (b.alloc o) g:=h.trans (BB.of_below (alz (Zw _ _) o) g)
theorem BB.set {a b:World} {g:Nat} (h:BB a b g) (j:Nat) (u:Value):BB a (b.setCell ⟨g,j,none⟩ u) g:=
 ⟨h.os,h.tape,h.output,by simpa using h.size,fun i hi hg=>(Below.heap_setCell b ⟨g,j,none⟩ u i hg).trans (h.block i hi hg)⟩
theorem BB.new {a b:World} {g n:Nat} (h:BB a b g) (hn:a.heap.size<=n) (j:Nat) (u:Value):BB a (b.setCell ⟨n,j,none⟩ u) g:=
 ⟨h.os,h.tape,h.output,by simpa using h.size,fun i hi hg=>(Below.heap_setCell b ⟨n,j,none⟩ u i (by show i≠n;omega)).trans (h.block i hi hg)⟩
def gpN:Nat->Nat
 |0=>1
 |i+1=>xt 128 285 (gpN i)
def expAt:Nat->List Int
 |0=>List.replicate 256 0
 |i+1=>(expAt i).set i (gpN i:Int)
def logAt:Nat->List Int
 |0=>List.replicate 256 0
 |i+1=>(logAt i).set (gpN i) (i:Int)
theorem evz: ∀i,(expAt i).length=256
 |0=>List.length_replicate
 |i+1=>by rw [expAt,List.length_set,evz i]
theorem ewz: ∀i,(logAt i).length=256
 |0=>List.length_replicate
 |i+1=>by rw [logAt,List.length_set,ewz i]
theorem gpN_range: ∀i,i<256->1<=gpN i/\gpN i<256:=by decide+kernel
def freshF (wb p:Int):Array Value:= #[.int .i64 wb, .int .u32 p, .int .u32 0, .int .i32 0, .int .u32 0, .slice none 0 0, .slice none 0 0]
def readyF (wb p:Int) (a b:Nat):Array Value:= #[.int .i64 wb, .int .u32 p, .int .u32 1, .int .i32 0, .int .u32 0, .slice (some ⟨a,0,none⟩) 256 256, .slice (some ⟨b,0,none⟩) 256 256]
def Fd (W:World) (g:Nat) (wb p:Int) (S:Nat->Prop):Prop:=
 ¬S g/\(W.heap[g]?=some (.cells (freshF wb p) 172 (0,0))\/
  (wb=8/\p=285/\ ∃a b,W.heap[g]?=some (.cells (readyF wb p a b) 172 (0,0))/\W.heap[a]?=some (.cells (nums .i64 (expAt 255)).toArray 3 (0,0))/\W.heap[b]?=some (.cells (nums .i64 (logAt 255)).toArray 3 (0,0))/\ ¬S a/\ ¬S b))
theorem Fd.lt {W:World} {g:Nat} {wb p:Int} {S:Nat->Prop} (h:Fd W g wb p S):g<W.heap.size:=by
 obtain ⟨-,h|⟨-, -,a,b,h, -⟩⟩:=h
 ·exact aPz h
 ·exact aPz h
theorem Fd.move {W W1:World} {g:Nat} {wb p:Int} {S:Nat->Prop} (h:Fd W g wb p S) (hm: ∀k, ¬S k->k<W.heap.size->W1.heap[k]?=W.heap[k]?):Fd W1 g wb p S:=by
 obtain ⟨hg,h|⟨h8,hp,a,b,h,ha,hb,na,nb⟩⟩:=h
 ·exact ⟨hg, .inl ((hm g hg (aPz h)).trans h)⟩
 ·exact ⟨hg, .inr ⟨h8,hp,a,b,(hm g hg (aPz h)).trans h,(hm a na (aPz ha)).trans ha,(hm b nb (aPz hb)).trans hb,na,nb⟩⟩
theorem Fd.thin {W:World} {g:Nat} {wb p:Int} {S S':Nat->Prop} (h:Fd W g wb p S) (hs: ∀k,k<W.heap.size->S' k->S k):Fd W g wb p S':=by
 obtain ⟨hg,h|⟨h8,hp,a,b,h,ha,hb,na,nb⟩⟩:=h
 ·exact ⟨fun s=>hg (hs _ (aPz h) s), .inl h⟩
 ·exact ⟨fun s=>hg (hs _ (aPz h) s), .inr ⟨h8,hp,a,b,h,ha,hb,fun s=>na (hs _ (aPz ha) s),fun s=>nb (hs _ (aPz hb) s)⟩⟩
theorem Fd.more {W:World} {g:Nat} {wb p:Int} {S:Nat->Prop} (h:Fd W g wb p S):Fd W g wb p (fun k=>S k\/W.heap.size<=k):=h.thin (fun _ hk hs=>hs.resolve_right (by omega))
theorem Fd.below {W W1:World} {g:Nat} {wb p:Int} {S:Nat->Prop} (h:Fd W g wb p S) (hb:Below W.heap.size W W1):Fd W1 g wb p S:=h.move (fun k _ hk=>hb.block k hk)
theorem Fd.alloc {W:World} {g:Nat} {wb p:Int} {S:Nat->Prop} (h:Fd W g wb p S) (o:Obj):Fd (W.alloc o) g wb p S:=h.below (alz (Zw _ _) o)
theorem Fd.drew {W:World} {g:Nat} {wb p:Int} {S:Nat->Prop} (h:Fd W g wb p S):Fd W.drew g wb p S:=h
theorem Fd.drewN {W:World} {g:Nat} {wb p:Int} {S:Nat->Prop} (h:Fd W g wb p S) (n:Nat):Fd (W.drewN n) g wb p S:=h
theorem Fd.set {W:World} {g:Nat} {wb p:Int} {S:Nat->Prop} (h:Fd W g wb p S) {q:Addr} (hq:S q.block) (u:Value):Fd (W.setCell q u) g wb p S:=
 h.move (fun k hk _=>Below.heap_setCell W q u k (fun e=>hk (e▸hq)))
theorem Fd.bits {W:World} {g:Nat} {wb p:Int} {S:Nat->Prop} (h:Fd W g wb p S):W.cell? ⟨g,0,none⟩=some (.int .i64 wb):=by
 obtain ⟨-,h|⟨-, -,a,b,h, -⟩⟩:=h
 ·exact (aaz h 0).trans rfl
 ·exact (aaz h 0).trans rfl
theorem Fd.poly {W:World} {g:Nat} {wb p:Int} {S:Nat->Prop} (h:Fd W g wb p S):W.cell? ⟨g,1,none⟩=some (.int .u32 p):=by
 obtain ⟨-,h|⟨-, -,a,b,h, -⟩⟩:=h
 ·exact (aaz h 1).trans rfl
 ·exact (aaz h 1).trans rfl
def fsize (wb:Int):Int:=if wb=8 then 256 else 65536
def inF (wb a:Int):Bool:=decide (0<=a)&&decide (a<fsize wb)
def allIn (wb:Int) (l:List Int):Bool:=l.all fun a=>decide (0<=a)&&decide (a<fsize wb)
def gmN (wb:Int) (a b:Nat):Nat:=if wb=8 then gm 7 285 a b else gm 15 69643 a b
def gmul (wb a b:Int):Int:=if inF wb a&&inF wb b then (gmN wb a.toNat b.toNat:Int) else 0
def gpwN (wb:Int) (a n:Nat):Nat:=if wb=8 then gp 7 285 a n else gp 15 69643 a n
def gpow (wb a n:Int):Int:=if inF wb a&&decide (0<=n) then (gpwN wb a.toNat n.toNat:Int) else 0
def ginv (wb a:Int):Int:=if inF wb a&&a !=0 then gpow wb a (fsize wb - 2) else 0
theorem log_at: ∀i,i<255->(logAt 255).getD (gpN i) 0=(i:Int):=by decide+kernel
theorem exp_at: ∀i,i<255->(expAt 255).getD i 0=(gpN i:Int):=by decide+kernel
theorem gpN_255:gpN 255=1:=by decide+kernel
theorem gpN_all: ∀a,a<256->a≠0-> ∃i,i<255/\gpN i=a:=by
 have h: ∀a,a<256->a≠0->gpN ((logAt 255).getD a 0).toNat=a/\((logAt 255).getD a 0).toNat<255:=by decide+kernel
 intro a ha h0;exact ⟨_,(h a ha h0).2,(h a ha h0).1⟩
theorem gpN_lt8: ∀i,gpN i<2^(7+1)
 |0=>by decide
 |i+1=>xt_lt 7 285 _ (gpN_lt8 i) gf8.toGf.hq gf8.toGf.hq1
theorem gf8_pow_mul: ∀(i j:Nat),j<256->gm 7 285 (gpN i) (gpN j)=gpN (i+j)
 |0,j,hj=>by
  rw [Nat.zero_add];exact gf8.toGf.dZz (gpN_range j hj).2
 |i+1,j,hj=>by
  have hl:=gpN_lt8 i;show gm 7 285 (xt (2^7) 285 (gpN i)) (gpN j)=_;rw [gf8.toGf.xt_left hl,gf8_pow_mul i j hj,show i+1+j=i+j+1 from by omega];rfl
theorem gpN_succ (i:Nat):gpN (i+1)=xt 128 285 (gpN i):=rfl
theorem gpN_period: ∀i,gpN (i+255)=gpN i
 |0=>gpN_255
 |i+1=>by
  rw [show i+1+255=(i+255)+1 from by omega,gpN_succ (i+255),gpN_succ i,gpN_period i]
theorem gpN_mod (i:Nat):gpN i=gpN (i % 255):=by
 have h: ∀k r,gpN (r+255*k)=gpN r:=by
  intro k
  induction k with
  |zero=>intro r;rfl
  |succ k ih=>intro r;rw [show r+255*(k+1)=(r+255*k)+255 from by omega,gpN_period,ih]
 have:=h (i / 255) (i % 255);rwa [Nat.mod_add_div] at this
theorem tab_mul (a b:Nat) (ha:a<256) (hb:b<256) (ha0:a≠0) (hb0:b≠0): ∃i j:Nat,i<255/\j<255/\(logAt 255).getD a 0=(i:Int)/\(logAt 255).getD b 0=(j:Int)/\gpN ((i+j) % 255)=gm 7 285 a b:=by
 obtain ⟨i,hi,rfl⟩:=gpN_all a ha ha0;obtain ⟨j,hj,rfl⟩:=gpN_all b hb hb0;exact ⟨i,j,hi,hj,log_at i hi,log_at j hj,by rw [<-gpN_mod,gf8_pow_mul i j (by omega)]⟩
theorem gmul_out {wb a b:Int} (h:(inF wb a&&inF wb b)=false):gmul wb a b=0:=by simp [gmul,h]
theorem d2z (wb b:Int):gmul wb 0 b=0:=by
 unfold gmul;split
 ·rw [Int.toNat_zero];unfold gmN;split<;>rw [Gf.dLz] <;>rfl
 ·rfl
theorem eEz (wb a:Int):gmul wb a 0=0:=by
 unfold gmul;split
 ·rw [Int.toNat_zero];unfold gmN;split<;>rw [Gf.zero_right] <;>rfl
 ·rfl
theorem gmN_lt {wb:Int} (hw:wb=8\/wb=16) {a:Nat} (b:Nat) (ha:(a:Int)<fsize wb):(gmN wb a b:Int)<fsize wb:=by
 rcases hw with rfl|rfl
 ·have:=gf8.toGf.lt (a:=a) (b:=b) (by simp [fsize] at ha;omega);simp only [gmN,fsize,if_true];omega
 ·have:=gf16.toGf.lt (a:=a) (b:=b) (by simp [fsize] at ha;omega);simp only [gmN,fsize,show¬((16:Int)=8) by decide,if_false];omega
theorem bQz {wb:Int} (hw:wb=8\/wb=16) (a b:Int):0<=gmul wb a b/\gmul wb a b<fsize wb:=by
 have hz:(0:Int)<fsize wb:=by rcases hw with rfl|rfl<;>decide
 unfold gmul;split
 ·rename_i h
  simp only [Bool.and_eq_true,inF,decide_eq_true_eq] at h;exact ⟨by omega,gmN_lt hw _ (by omega)⟩
 ·omega
def aTz.l0:Nat->List (List Int)->Int->Int->Option (Int)
 |0,_,_,_=>none
 |k+1,x0,x2,x7=>if x7<(x0.length:Int) then (if 0<=x7 then (if 0<=x2 then (if x2<((rd_L4 x0 x7).length:Int) then (if (rd (rd_L4 x0 x7) x2)=0 then (aTz.l0 k x0 x2 (wrap64 (x7+1))) else (some x7)) else (none)) else (none)) else (none)) else (some (-1))
def aTz.f (k:Nat) (l0:List (List Int)) (a1:Int) (a2:Int):Option (Int):=aTz.l0 k l0 a2 a1
theorem aTz.aVz: ∀k,(∀y0 y1 y2,LeO (aTz.l0 k y0 y1 y2) (aTz.l0 (k+1) y0 y1 y2))
 |0=>fun _ _ _ r h=>by simp [aTz.l0] at h
 |k+1=>by
  have ih0:=aTz.aVz k
  ·intro y0 y1 y2;unfold aTz.l0
   repeat' with_reducible first|apply ih0|apply Yg|apply Yh|apply Yi|refine Yj ?_ fun _=>?_
theorem aTz.mono: ∀a0 a1 a2 k,LeO (aTz.f k a0 a1 a2) (aTz.f (k+1) a0 a1 a2):=by
 intro a0 a1 a2 k;have ih0:=aTz.aVz k;unfold aTz.f
 repeat' with_reducible first|apply ih0|apply Yg|apply Yh|apply Yi|refine Yj ?_ fun _=>?_
theorem aTz.calls (k : Nat) (A0 : Option Addr) (c0 : Nat) (l0 : List (List Int)) (a1 : Int) (a2 : Int) (r : Int) (w : World) (hr0 : Kd.C (Kd.slice 3 (Kd.int .i64)) w A0 l0.length l0) (hc0 : l0.length <= c0) (h : aTz.f k l0 a1 a2 = some r) :
  Calls Tryz.prog 145 #[.slice A0 l0.length c0, .int .i64 a1, .int .i64 a2] w fun e w'=>e= .returned (.int .i64 r)/\Drawn0 w w':=by
 have HR0:=Za hr0;have HC0:=Za hc0;clear hr0 hc0;have H:=h;clear h;unfold aTz.f at H;have H':=Za H;clear H;go_enter Tryz.func145,Tryz.ntmps145;go_wp2
 go_loopg [7] k (fun kq v7 w'=> ∃(x7_1:Int),v7= .int .i64 x7_1/\Aside0 (aTz.l0 kq l0 a2 x7_1=some r)/\Aside0 (kq<=k)/\Drawn0 w w')
 case atStart=>exact ⟨(a1),sd_,H',⟨Zv _⟩,dn_⟩
 clear H';obtain ⟨x7_1,rfl,HA,HK1,⟨m1,rfl⟩⟩:=hrel;rcases gk with _|k1
 ·exact Yf HA.out (by simp [aTz.l0])
 have H:=HA.out;clear HA;simp only [aTz.l0] at H;by_cases c4:x7_1<(l0.length:Int)
 rotate_left
 ·rw [Yb c4] at H;have c4b0:=Ze c4;clear c4;obtain rfl:=Zn H;go_wp2;go_ret;exact ⟨sd_,dn_⟩
 rw [Ya c4] at H;have c4b0:=Zd c4;clear c4;by_cases c5:0<=x7_1
 rotate_left
 ·rw [Yb c5] at H;exact Yf H (by simp)
 rw [Ya c5] at H;have c5b0:=Zd c5;clear c5;by_cases c6:0<=a2
 rotate_left
 ·rw [Yb c6] at H;exact Yf H (by simp)
 rw [Ya c6] at H;have c6b0:=Zd c6;clear c6;by_cases c7:a2<((rd_L4 l0 x7_1).length:Int)
 rotate_left
 ·rw [Yb c7] at H;exact Yf H (by simp)
 rw [Ya c7] at H;have c7b0:=Zd c7;clear c7;by_cases c8:(rd (rd_L4 l0 x7_1) a2)=0
 rotate_left
 ·rw [Yb c8] at H;have c8b0:((rd (rd_L4 l0 x7_1) a2)==0)=false:=Zq c8;have c8b1:((rd (rd_L4 l0 x7_1) a2) !=0)=true:=Yd c8;obtain rfl:=Zn H;have p156:0<=(x7_1:Int):=Zc as_;have q156:x7_1<(l0.length:Int):=Zc as_;obtain ⟨_,A156_0,c156_0,e156,hx156_0,hl156_0,hi156_0⟩:=at_L4 HR0.out x7_1 p156 q156;cases e156
  have HR156_0:=Za hi156_0;have HC156_0:=Za hl156_0;clear hi156_0 hl156_0;replace p156:=Zz p156;replace q156:=Zz q156;have p157:0<=(a2:Int):=Zc as_;have q157:a2<((rd_L4 l0 x7_1).length:Int):=Zc as_;obtain ⟨_,e157,hx157_0⟩:=Kd.bAz HR156_0.out a2 p157 q157;cases e157
  replace p157:=Zz p157;replace q157:=Zz q157;go_wp2;go_ret;exact ⟨sd_,dn_⟩
 rw [Ya c8] at H;have c8b0:((rd (rd_L4 l0 x7_1) a2)==0)=true:=Ye c8;have c8b1:((rd (rd_L4 l0 x7_1) a2) !=0)=false:=Yc c8;clear c8;have H':=Za H;clear H;have p156:0<=(x7_1:Int):=Zc as_;have q156:x7_1<(l0.length:Int):=Zc as_;obtain ⟨_,A156_0,c156_0,e156,hx156_0,hl156_0,hi156_0⟩:=at_L4 HR0.out x7_1 p156 q156;cases e156
 have HR156_0:=Za hi156_0;have HC156_0:=Za hl156_0;clear hi156_0 hl156_0;replace p156:=Zz p156;replace q156:=Zz q156;have p157:0<=(a2:Int):=Zc as_;have q157:a2<((rd_L4 l0 x7_1).length:Int):=Zc as_;obtain ⟨_,e157,hx157_0⟩:=Kd.bAz HR156_0.out a2 p157 q157;cases e157
 replace p157:=Zz p157;replace q157:=Zz q157;go_wp2
 go_roundg k1
 case measure=>have:=HK1.out;omega
 case rel=>exact ⟨(wrap64 (x7_1+1)),sd_,H',⟨by have:=HK1.out;omega⟩,dn_⟩
def asz.l0:Nat->Int->Int->Option (Int)
 |0,_,_=>none
 |k+1,x0,x3=>if x0>0 then (asz.l0 k (IntKind.u64.wrap (Int.tdiv x0 2)) (wrap64 (x3+1))) else (some x3)
def asz.f (k:Nat) (a0:Int):Option (Int):=asz.l0 k a0 (-1)
theorem asz.aVz: ∀k,(∀y0 y1,LeO (asz.l0 k y0 y1) (asz.l0 (k+1) y0 y1))
 |0=>fun _ _ r h=>by simp [asz.l0] at h
 |k+1=>by
  have ih0:=asz.aVz k
  ·intro y0 y1;unfold asz.l0
   repeat' with_reducible first|apply ih0|apply Yg|apply Yh|apply Yi|refine Yj ?_ fun _=>?_
theorem asz.mono: ∀a0 k,LeO (asz.f k a0) (asz.f (k+1) a0):=by
 intro a0 k;have ih0:=asz.aVz k;unfold asz.f
 repeat' with_reducible first|apply ih0|apply Yg|apply Yh|apply Yi|refine Yj ?_ fun _=>?_
theorem asz.calls (k : Nat) (a0 : Int) (r : Int) (w : World) (h : asz.f k a0 = some r) :
  Calls Tryz.prog 194 #[.int .u64 a0] w fun e w'=>e= .returned (.int .i64 r)/\Drawn0 w w':=by
 have H:=h;clear h;unfold asz.f at H;have H':=Za H;clear H;go_enter Tryz.func194,Tryz.ntmps194;go_wp2
 go_loopg [0,3] k (fun kq v0 v3 w'=> ∃(x0_1:Int) (x3_1:Int),v0= .int .u64 x0_1/\v3= .int .i64 x3_1/\Aside0 (asz.l0 kq x0_1 x3_1=some r)/\Aside0 (kq<=k)/\Drawn0 w w')
 case atStart=>exact ⟨(a0),((-1)),sd_,sd_,H',⟨Zv _⟩,dn_⟩
 clear H';obtain ⟨x0_1,x3_1,rfl,rfl,HA,HK1,⟨m1,rfl⟩⟩:=hrel;rcases gk with _|k1
 ·exact Yf HA.out (by simp [asz.l0])
 have H:=HA.out;clear HA;simp only [asz.l0] at H;by_cases c2:x0_1>0
 ·rw [Ya c2] at H;have c2b0:decide (0<x0_1)=true:=Zd c2;clear c2;have H':=Za H;clear H;go_wp2
  go_roundg k1
  case measure=>have:=HK1.out;omega
  case rel=>exact ⟨(IntKind.u64.wrap (Int.tdiv x0_1 2)),(wrap64 (x3_1+1)),sd_,sd_,H',⟨by have:=HK1.out;omega⟩,dn_⟩
 ·rw [Yb c2] at H;have c2b0:decide (0<x0_1)=false:=Ze c2;clear c2;obtain rfl:=Zn H;go_wp2;go_ret;exact ⟨sd_,dn_⟩
def aAz.l0:Nat->Int->Int->Int->Option (Int)
 |0,_,_,_=>none
 |k+1,x0,x3,x4=>if x4<x0 then (aAz.l0 k x0 (IntKind.u64.wrap (2*x3)) (wrap64 (x4+1))) else (some x3)
def aAz.f (k:Nat) (a0:Int):Option (Int):=aAz.l0 k a0 1 0
theorem aAz.aVz: ∀k,(∀y0 y1 y2,LeO (aAz.l0 k y0 y1 y2) (aAz.l0 (k+1) y0 y1 y2))
 |0=>fun _ _ _ r h=>by simp [aAz.l0] at h
 |k+1=>by
  have ih0:=aAz.aVz k
  ·intro y0 y1 y2;unfold aAz.l0
   repeat' with_reducible first|apply ih0|apply Yg|apply Yh|apply Yi|refine Yj ?_ fun _=>?_
theorem aAz.mono: ∀a0 k,LeO (aAz.f k a0) (aAz.f (k+1) a0):=by
 intro a0 k;have ih0:=aAz.aVz k;unfold aAz.f
 repeat' with_reducible first|apply ih0|apply Yg|apply Yh|apply Yi|refine Yj ?_ fun _=>?_
theorem aAz.calls (k : Nat) (a0 : Int) (r : Int) (w : World) (h : aAz.f k a0 = some r) :
  Calls Tryz.prog 195 #[.int .i64 a0] w fun e w'=>e= .returned (.int .u64 r)/\Drawn0 w w':=by
 have H:=h;clear h;unfold aAz.f at H;have H':=Za H;clear H;go_enter Tryz.func195,Tryz.ntmps195;go_wp2
 go_loopg [3,4] k (fun kq v3 v4 w'=> ∃(x3_1:Int) (x4_1:Int),v3= .int .u64 x3_1/\v4= .int .i64 x4_1/\Aside0 (aAz.l0 kq a0 x3_1 x4_1=some r)/\Aside0 (kq<=k)/\Drawn0 w w')
 case atStart=>exact ⟨(1),(0),sd_,sd_,H',⟨Zv _⟩,dn_⟩
 clear H';obtain ⟨x3_1,x4_1,rfl,rfl,HA,HK1,⟨m1,rfl⟩⟩:=hrel;rcases gk with _|k1
 ·exact Yf HA.out (by simp [aAz.l0])
 have H:=HA.out;clear HA;simp only [aAz.l0] at H;by_cases c2:x4_1<a0
 ·rw [Ya c2] at H;have c2b0:=Zd c2;clear c2;have H':=Za H;clear H;go_wp2
  go_roundg k1
  case measure=>have:=HK1.out;omega
  case rel=>exact ⟨(IntKind.u64.wrap (2*x3_1)),(wrap64 (x4_1+1)),sd_,sd_,H',⟨by have:=HK1.out;omega⟩,dn_⟩
 ·rw [Yb c2] at H;have c2b0:=Ze c2;clear c2;obtain rfl:=Zn H;go_wp2;go_ret;exact ⟨sd_,dn_⟩
def auz.l0:Nat->Int->Int->Int->Option (Int)
 |0,_,_,_=>none
 |k+1,x0,x1,x5=>(asz.f k x0).bind fun t159=>(if t159>=x5 then ((asz.f k x0).bind fun t160=>((aAz.f k (wrap64 (t160 - x5))).bind fun t161=>(auz.l0 k (Go.bits .xor .u64 x0 (IntKind.u64.wrap ((IntKind.u64.wrap (x1))*t161))) x1 x5))) else (some ((x0) % 4294967296)))
def auz.f (k:Nat) (a0:Int) (a1:Int):Option (Int):=if a1=0 then (some 0) else ((asz.f k (IntKind.u64.wrap (a1))).bind fun t158=>(auz.l0 k a0 a1 t158))
theorem auz.aVz: ∀k,(∀y0 y1 y2,LeO (auz.l0 k y0 y1 y2) (auz.l0 (k+1) y0 y1 y2))
 |0=>fun _ _ _ r h=>by simp [auz.l0] at h
 |k+1=>by
  have ih0:=auz.aVz k
  ·intro y0 y1 y2;unfold auz.l0
   repeat' with_reducible first|apply ih0|apply asz.mono|apply aAz.mono|apply Yg|apply Yh|apply Yi|refine Yj ?_ fun _=>?_
theorem auz.mono: ∀a0 a1 k,LeO (auz.f k a0 a1) (auz.f (k+1) a0 a1):=by
 intro a0 a1 k;have ih0:=auz.aVz k;unfold auz.f
 repeat' with_reducible first|apply ih0|apply asz.mono|apply aAz.mono|apply Yg|apply Yh|apply Yi|refine Yj ?_ fun _=>?_
theorem auz.calls (k : Nat) (a0 : Int) (a1 : Int) (r : Int) (w : World) (h : auz.f k a0 a1 = some r) :
  Calls Tryz.prog 180 #[.int .u64 a0, .int .u32 a1] w fun e w'=>e= .returned (.int .u32 r)/\Drawn0 w w':=by
 have H:=h;clear h;unfold auz.f at H;by_cases c3:a1=0
 ·rw [Ya c3] at H;have c3b0:(a1==0)=true:=Ye c3;have c3b1:(a1 !=0)=false:=Yc c3;clear c3;obtain rfl:=Zn H;go_enter Tryz.func180,Tryz.ntmps180;go_wp2;go_ret;exact ⟨sd_,dn_⟩
 ·rw [Yb c3] at H;have c3b0:(a1==0)=false:=Zq c3;have c3b1:(a1 !=0)=true:=Yd c3;obtain ⟨t158,A4,H⟩:=ob_ H
  (try dsimp only at H)
  have H':=Za H;clear H;go_enter Tryz.func180,Tryz.ntmps180
  go_wp2_with (first|((with_reducible refine abz (f:=194) rfl ?_);refine gl_ (some 10) Tryz.func194 #[.int .u64 (IntKind.u64.wrap (a1))] ?_;(with_reducible refine (asz.calls k (IntKind.u64.wrap (a1)) t158 _ A4.out).mono ?_);rintro e w' ⟨rfl,⟨nd,rfl⟩⟩;refine ⟨_,rfl,?_⟩))
  go_loopg [0] k (fun kq v0 w'=> ∃(x0_1:Int),v0= .int .u64 x0_1/\Aside0 (auz.l0 kq x0_1 a1 t158=some r)/\Aside0 (kq<=k)/\Drawn0 w w')
  case atStart=>exact ⟨(a0),sd_,H',⟨Zv _⟩,dn_⟩
  clear H';clear c3 c3b0 c3b1;obtain ⟨x0_1,rfl,HA,HK1,⟨m1,rfl⟩⟩:=hrel;rcases gk with _|k1
  ·exact Yf HA.out (by simp [auz.l0])
  have H:=HA.out;clear HA;simp only [auz.l0] at H;obtain ⟨t159,A5,H⟩:=ob_ H
  (try dsimp only at H)
  by_cases c6:t159>=t158
  rotate_left
  ·rw [Yb c6] at H;have c6b0:decide (t158<=t159)=false:=Ze c6;clear c6;obtain rfl:=Zn H
   go_wp2_with (first|((with_reducible refine abz (f:=194) rfl ?_);refine gl_ (some 12) Tryz.func194 #[.int .u64 x0_1] ?_;(with_reducible refine (asz.calls k1 x0_1 t159 _ A5.out).mono ?_);rintro e w' ⟨rfl,⟨nd,rfl⟩⟩;refine ⟨_,rfl,?_⟩))
   go_ret;exact ⟨sd_,dn_⟩
  rw [Ya c6] at H;have c6b0:decide (t158<=t159)=true:=Zd c6;clear c6;obtain ⟨t160,A7,H⟩:=ob_ H
  (try dsimp only at H)
  obtain ⟨t161,A8,H⟩:=ob_ H
  (try dsimp only at H)
  have H':=Za H;clear H
  go_wp2_with (first|((with_reducible refine abz (f:=194) rfl ?_);refine gl_ (some 12) Tryz.func194 #[.int .u64 x0_1] ?_;(with_reducible refine (asz.calls k1 x0_1 t159 _ A5.out).mono ?_);rintro e w' ⟨rfl,⟨nd,rfl⟩⟩;refine ⟨_,rfl,?_⟩)|((with_reducible refine abz (f:=194) rfl ?_);refine gl_ (some 19) Tryz.func194 #[.int .u64 x0_1] ?_;(with_reducible refine (asz.calls k1 x0_1 t160 _ A7.out).mono ?_);rintro e w' ⟨rfl,⟨nd,rfl⟩⟩;refine ⟨_,rfl,?_⟩)|((with_reducible refine abz (f:=195) rfl ?_);refine gl_ (some 22) Tryz.func195 #[.int .i64 (wrap64 (t160 - t158))] ?_;(with_reducible refine (aAz.calls k1 (wrap64 (t160 - t158)) t161 _ A8.out).mono ?_);rintro e w' ⟨rfl,⟨nd,rfl⟩⟩;refine ⟨_,rfl,?_⟩))
  go_roundg k1
  case measure=>have:=HK1.out;omega
  case rel=>exact ⟨(Go.bits .xor .u64 x0_1 (IntKind.u64.wrap ((IntKind.u64.wrap (a1))*t161))),sd_,H',⟨by have:=HK1.out;omega⟩,dn_⟩
def aCz.l0:Nat->Int->Int->Int->Option (Int)
 |0,_,_,_=>none
 |k+1,x1,x5,x6=>if x1>0 then (if (Int.tmod x1 2)=1 then (aCz.l0 k ((Int.tdiv x1 2) % 4294967296) (Go.bits .xor .u64 x5 x6) (IntKind.u64.wrap (2*x6))) else (aCz.l0 k ((Int.tdiv x1 2) % 4294967296) x5 (IntKind.u64.wrap (2*x6)))) else (some x5)
def aCz.f (k:Nat) (a0:Int) (a1:Int):Option (Int):=aCz.l0 k a1 0 (IntKind.u64.wrap (a0))
theorem aCz.aVz: ∀k,(∀y0 y1 y2,LeO (aCz.l0 k y0 y1 y2) (aCz.l0 (k+1) y0 y1 y2))
 |0=>fun _ _ _ r h=>by simp [aCz.l0] at h
 |k+1=>by
  have ih0:=aCz.aVz k
  ·intro y0 y1 y2;unfold aCz.l0
   repeat' with_reducible first|apply ih0|apply Yg|apply Yh|apply Yi|refine Yj ?_ fun _=>?_
theorem aCz.mono: ∀a0 a1 k,LeO (aCz.f k a0 a1) (aCz.f (k+1) a0 a1):=by
 intro a0 a1 k;have ih0:=aCz.aVz k;unfold aCz.f
 repeat' with_reducible first|apply ih0|apply Yg|apply Yh|apply Yi|refine Yj ?_ fun _=>?_
theorem aCz.calls (k : Nat) (a0 : Int) (a1 : Int) (r : Int) (w : World) (h : aCz.f k a0 a1 = some r) :
  Calls Tryz.prog 181 #[.int .u32 a0, .int .u32 a1] w fun e w'=>e= .returned (.int .u64 r)/\Drawn0 w w':=by
 have H:=h;clear h;unfold aCz.f at H;have H':=Za H;clear H;go_enter Tryz.func181,Tryz.ntmps181;go_wp2
 go_loopg [1,5,6] k (fun kq v1 v5 v6 w'=> ∃(x1_1:Int) (x5_1:Int) (x6_1:Int),v1= .int .u32 x1_1/\v5= .int .u64 x5_1/\v6= .int .u64 x6_1/\Aside0 (aCz.l0 kq x1_1 x5_1 x6_1=some r)/\Aside0 (kq<=k)/\Drawn0 w w')
 case atStart=>exact ⟨(a1),(0),(IntKind.u64.wrap (a0)),sd_,sd_,sd_,H',⟨Zv _⟩,dn_⟩
 clear H';obtain ⟨x1_1,x5_1,x6_1,rfl,rfl,rfl,HA,HK1,⟨m1,rfl⟩⟩:=hrel;rcases gk with _|k1
 ·exact Yf HA.out (by simp [aCz.l0])
 have H:=HA.out;clear HA;simp only [aCz.l0] at H;by_cases c3:x1_1>0
 rotate_left
 ·rw [Yb c3] at H;have c3b0:decide (0<x1_1)=false:=Ze c3;clear c3;obtain rfl:=Zn H;go_wp2;go_ret;exact ⟨sd_,dn_⟩
 rw [Ya c3] at H;have c3b0:decide (0<x1_1)=true:=Zd c3;clear c3;by_cases c4:(Int.tmod x1_1 2)=1
 ·rw [Ya c4] at H;have c4b0:((Int.tmod x1_1 2)==1)=true:=Ye c4;have c4b1:((Int.tmod x1_1 2) !=1)=false:=Yc c4;clear c4;have H':=Za H;clear H;go_wp2
  go_roundg k1
  case measure=>have:=HK1.out;omega
  case rel=>exact ⟨((Int.tdiv x1_1 2) % 4294967296),(Go.bits .xor .u64 x5_1 x6_1),(IntKind.u64.wrap (2*x6_1)),sd_,sd_,sd_,H',⟨by have:=HK1.out;omega⟩,dn_⟩
 ·rw [Yb c4] at H;have c4b0:((Int.tmod x1_1 2)==1)=false:=Zq c4;have c4b1:((Int.tmod x1_1 2) !=1)=true:=Yd c4;have H':=Za H;clear H;go_wp2
  go_roundg k1
  case measure=>have:=HK1.out;omega
  case rel=>exact ⟨((Int.tdiv x1_1 2) % 4294967296),(x5_1),(IntKind.u64.wrap (2*x6_1)),sd_,sd_,sd_,H',⟨by have:=HK1.out;omega⟩,dn_⟩
def bits_Len64.f (a0:Int):Option (Int):=if 0<=a0 then (if a0<=18446744073709551615 then (some (Lib.bitLen a0.toNat:Int)) else (none)) else (none)
theorem bits_Len64.calls (a0 : Int) (r : Int) (w : World) (h : bits_Len64.f a0 = some r) :
  Calls Tryz.prog 162 #[.int .u64 a0] w fun e w'=>e= .returned (.int .i64 r)/\Drawn0 w w':=by
 unfold bits_Len64.f at h;by_cases h0:0<=a0
 case neg=>rw [Yb h0] at h;cases h
 rw [Ya h0] at h;by_cases h1:a0<=18446744073709551615
 case neg=>rw [Yb h1] at h;cases h
 rw [Ya h1] at h;cases h
 refine (bits_Len64_told a0 w h0 h1).mono ?_;rintro e w' ⟨rfl,rfl⟩;exact ⟨rfl,Drawn0.refl _⟩
end Go.Proofs.Xc
end
