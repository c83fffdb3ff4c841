-- Joined texts of this work (wip/tools/bundle.py).
import Derived.Test.YtpdakdcmahlghaaGreatProg
import Derived.Below
import Derived.Deep.Draws
import Derived.Deep.AppendLies
import Derived.Maps.AppendAt
import Derived.OwnWalk
import Derived.Laws.BytesArg
import Derived.Laws.MakeOwn
import Derived.Laws.OwnMore
import Derived.Deep.OwnRows
import Derived.Tactics
import Derived.Lib.ConvBytes
import Derived.Laws.Slices
import Derived.WalkKit
import Derived.KernelRfl
import Derived.RowKit3
import Derived.Deep.LoopGhost
import Derived.Deep.QuietTactic
import Derived.BigQuiet
import Derived.WideLaws
import Derived.Deep.DeepCutAuto
import Derived.Deep.CutBlock
import Derived.Deep.RegionHeld3
import Derived.Laws.Rows
import Derived.Lib.AppendStr
import Derived.ArgAppend
import Derived.Laws.IdiomCopy
import Derived.OrdersHeld
import Derived.Laws.BitsLemmas
import Derived.RowKit
import Derived.Laws.CopyOwn
import Derived.Test.YtpdakdcmahlghaaGreatBTrialTells1
import Derived.Test.YtpdakdcmahlghaaGreatBTrialTells2
set_option maxHeartbeats 8000000
set_option maxRecDepth 100000
set_option linter.unusedVariables false
set_option linter.unusedSimpArgs false
section
namespace Go.Proofs.Xc
open Go.RowKit Go.Proofs.Pw Go.Proofs.Pl Go.Proofs.Pm
attribute [local go_sem] bcz bdz bpz bqz a4z a5z bez bfz
def errW:Option Int->Value
 |none=> .nilIface
 |some c=> .iface 0 (.int .i64 c)
theorem ckz:errW none= .nilIface:=rfl
theorem clz (c:Int):errW (some c)= .iface 0 (.int .i64 c):=rfl
theorem info3:(Tryz.prog.info? 3).map (fun i=>(i.zero,i.size,i.bytes))=some (some (.int .i64 0),1,8):=by kernel_rfl
theorem info5:(Tryz.prog.info? 5).map (fun i=>(i.zero,i.size,i.bytes))=some (some (.int .u8 0),1,1):=by kernel_rfl
theorem info34:(Tryz.prog.info? 34).map (fun i=>(i.zero,i.size,i.bytes))=some (some (.slice none 0 0),1,24):=by kernel_rfl
theorem info57:(Tryz.prog.info? 57).map (fun i=>(i.zero,i.size,i.bytes))=some (some (.slice none 0 0),1,24):=by kernel_rfl
def rd_L1 (xs:List (List Int)) (i:Int):(List Int):=xs.getD i.toNat ([] :List Int)
theorem at_L1 {w:World} {A:Option Addr} {n:Nat} {xs:List (List Int)} (h:Kd.C (Kd.slice 5 (Kd.int .u8)) w A n xs) (i:Int) (h0:0<=i) (h1:i<n): ∃ad A0 c0,A=some ad/\w.cell? (ad.add i.toNat)=some (.slice A0 (rd_L1 xs i).length c0)/\(rd_L1 xs i).length<=c0/\(Kd.int .u8).C w A0 (rd_L1 xs i).length (rd_L1 xs i):=by
 obtain ⟨ad,c,e,_,hK,hc0⟩:=Kd.C_get h ([] :List Int) i h0 h1;have hc: ∀j u,c[j]?=some u->w.cell? (ad.add (i.toNat*1+j))=some u:=hc0;obtain ⟨A0,c0,rfl,l0,g0⟩:=hK;exact ⟨ad,A0,c0,e,by have hq:=hc 0 _ rfl;rwa [Nat.mul_one,Nat.add_zero] at hq,l0,g0⟩
def rd_L4 (xs:List (List Int)) (i:Int):(List Int):=xs.getD i.toNat ([] :List Int)
theorem at_L4 {w:World} {A:Option Addr} {n:Nat} {xs:List (List Int)} (h:Kd.C (Kd.slice 3 (Kd.int .i64)) w A n xs) (i:Int) (h0:0<=i) (h1:i<n): ∃ad A0 c0,A=some ad/\w.cell? (ad.add i.toNat)=some (.slice A0 (rd_L4 xs i).length c0)/\(rd_L4 xs i).length<=c0/\(Kd.int .i64).C w A0 (rd_L4 xs i).length (rd_L4 xs i):=by
 obtain ⟨ad,c,e,_,hK,hc0⟩:=Kd.C_get h ([] :List Int) i h0 h1;have hc: ∀j u,c[j]?=some u->w.cell? (ad.add (i.toNat*1+j))=some u:=hc0;obtain ⟨A0,c0,rfl,l0,g0⟩:=hK;exact ⟨ad,A0,c0,e,by have hq:=hc 0 _ rfl;rwa [Nat.mul_one,Nat.add_zero] at hq,l0,g0⟩
def bL:Nat->Nat->List Bool
 |0,_=> []
 |n+1,m=>(m % 2==1)::bL n (m / 2)
def bA (n m:Nat):Array Bool:=(bL n m).toArray
section
variable {P : Program} {md : Region.Mode} {ops : Array Oper} {Q : Exit -> Act -> World -> Prop} {S : World -> Prop} {ds : List Nat} {oi : Oper} {v : Value} {fuel n m0 : Nat} {a a' : Act} {w : World} {T : Bool × List (List Nat × List Nat)} {B : List Nat}
theorem pu_ (i d m : Nat)
  (h:wpAnyLast P md ops Q S ds fuel (bA n m) a' w)
  (hi:ops[i]?=some oi:=by exact rfl) (hN:oi.dst=some d:=by exact rfl)
  (hc:anyB md ops (bA n m0) (bA n m) i=true:=by kernel_rfl)
  (hQ: ∀c v a w,Q (.panic c) (Act.put a (some d) v) w->Q (.panic c) a w:=by exact fun _ _ _ _ h=>h)
  (hy:Yields P ops oi v a:=by (refine Or.inl ⟨by rfl,?_⟩;intro w';go_simp;with_reducible rfl))
  (ha:a.put (some d) v=a':=by (simp only [Act.put,List.setIfInBounds_toArray,List.set_cons_zero,List.set_cons_succ,i64_w,i32_w];rfl)):
  wpAnyLast P md ops Q S ds (fuel+1) (bA n m0) a w:=pure_ _ hi hN hc (fun c a w=>by rw [hN];exact hQ c _ a w) hy ha h
theorem pv_ (i d m : Nat) (HT : Aside0 (rtab md ops = T))
  (h:wpAnyLast P md ops Q S ds fuel (bA n m) a' w)
  (hi:ops[i]?=some oi:=by exact rfl) (hN:oi.dst=some d:=by exact rfl)
  (hc:anyT T (bA n m0).toList (bA n m).toList i=true:=by kernel_rfl)
  (hQ: ∀c v a w,Q (.panic c) (Act.put a (some d) v) w->Q (.panic c) a w:=by exact fun _ _ _ _ h=>h)
  (hy:Yields P ops oi v a:=by (refine Or.inl ⟨by rfl,?_⟩;intro w';go_simp;with_reducible rfl))
  (ha:a.put (some d) v=a':=by (simp only [Act.put,List.setIfInBounds_toArray,List.set_cons_zero,List.set_cons_succ,i64_w,i32_w];rfl)):
  wpAnyLast P md ops Q S ds (fuel+1) (bA n m0) a w:=pure_ _ hi hN (any_of HT.out hc) (fun c a w=>by rw [hN];exact hQ c _ a w) hy ha h
theorem pn_ (i d m : Nat) (HT : Aside0 (rtab md ops = T))
  (h:wpAnyLast P md ops Q S ds fuel (bA n m) a' w)
  (hi:ops[i]?=some oi:=by exact rfl) (hN:oi.dst=some d:=by exact rfl)
  (hc:anyT T (bA n m0).toList (bA n m).toList i=true:=by kernel_rfl)
  (hQ: ∀c a w,Q (.panic c) (Act.put a (some d) undef) w->Q (.panic c) a w:=by exact fun _ _ _ h=>h)
  (hy:Yields P ops oi undef a:=by exact Or.inr ⟨by rfl,rfl⟩)
  (ha:a.put (some d) undef=a':=by (simp only [Act.put,List.setIfInBounds_toArray,List.set_cons_zero,List.set_cons_succ,i64_w,i32_w];rfl)):
  wpAnyLast P md ops Q S ds (fuel+1) (bA n m0) a w:=pure_ _ hi hN (any_of HT.out hc) (fun c a w=>by rw [hN];exact hQ c a w) hy ha h
theorem tk_ (i d m : Nat) (hS : S w)
  (h:wpAnyLast P md ops Q S ds fuel (bA n m) a' w)
  (hi:ops[i]?=some oi:=by exact rfl) (hN:oi.dst=some d:=by exact rfl)
  (hc:takeB md ops ds (bA n m0) (bA n m) i=true:=by kernel_rfl)
  (hQ: ∀c v a w,Q (.panic c) (Act.put a (some d) v) w->Q (.panic c) a w:=by exact fun _ _ _ _ h=>h)
  (hy:YieldsIf P ops S oi v a:=by (refine Or.inl ⟨by rfl,?_⟩;intro w' hs;(try dsimp only at hs);(repeat (rcases hs with ⟨s0,hs⟩));go_simp;with_reducible rfl))
  (ha:a.put (some d) v=a':=by (simp only [Act.put,List.setIfInBounds_toArray,List.set_cons_zero,List.set_cons_succ,i64_w,i32_w];rfl)):
  wpAnyLast P md ops Q S ds (fuel+1) (bA n m0) a w:=take_ _ hi hN hc (fun c a w=>by rw [hN];exact hQ c _ a w) hy hS ha h
theorem tw_ (i d m : Nat) (HT : Aside0 (rtab md ops = T)) (HW : Aside0 (waitsOk T.2 B = true)) (hS : S w)
  (h:wpAnyLast P md ops Q S ds fuel (bA n m) a' w)
  (hi:ops[i]?=some oi:=by exact rfl) (hN:oi.dst=some d:=by exact rfl)
  (hc:takeW T B ds (bA n m0).toList (bA n m).toList i=true:=by kernel_rfl)
  (hQ: ∀c v a w,Q (.panic c) (Act.put a (some d) v) w->Q (.panic c) a w:=by exact fun _ _ _ _ h=>h)
  (hy:YieldsIf P ops S oi v a:=by (refine Or.inl ⟨by rfl,?_⟩;intro w' hs;(try dsimp only at hs);(repeat (rcases hs with ⟨s0,hs⟩));go_simp;with_reducible rfl))
  (ha:a.put (some d) v=a':=by (simp only [Act.put,List.setIfInBounds_toArray,List.set_cons_zero,List.set_cons_succ,i64_w,i32_w];rfl)):
  wpAnyLast P md ops Q S ds (fuel+1) (bA n m0) a w:=take_ _ hi hN (take_ofW HT.out HW.out hc) (fun c a w=>by rw [hN];exact hQ c _ a w) hy hS ha h
end
theorem kr_ {p:Prop} (h:p:=by kernel_rfl):p:=h
theorem bl_ {p:Prop} (h:p:=by repeat (first|(with_reducible first|exact HB.out|apply anz|apply a0z|apply bTz|refine dEz ?_ (Aside0.out (by assumption)))|exact HB.out)):p:=h
theorem bk_ {p:Prop} (h:p:=by (with_reducible repeat (first|refine dcz ?_ _|refine ccz ?_|refine bGz ?_ _));exact Aside0.out (by assumption)):p:=h
theorem bp3_0 {w:World} {g:Nat} {t:TypeId} {x0 x1 x2 u:Value} (h:w.heap[g]?=some (.cells #[x0,x1,x2] t (0,0))):(w.setCell ⟨g,0,none⟩ u).heap[g]?=some (.cells #[u,x1,x2] t (0,0)):=cJz h 0 u rfl
theorem bp3_1 {w:World} {g:Nat} {t:TypeId} {x0 x1 x2 u:Value} (h:w.heap[g]?=some (.cells #[x0,x1,x2] t (0,0))):(w.setCell ⟨g,1,none⟩ u).heap[g]?=some (.cells #[x0,u,x2] t (0,0)):=cJz h 1 u rfl
theorem bp3_2 {w:World} {g:Nat} {t:TypeId} {x0 x1 x2 u:Value} (h:w.heap[g]?=some (.cells #[x0,x1,x2] t (0,0))):(w.setCell ⟨g,2,none⟩ u).heap[g]?=some (.cells #[x0,x1,u] t (0,0)):=cJz h 2 u rfl
theorem bp5_0 {w:World} {g:Nat} {t:TypeId} {x0 x1 x2 x3 x4 u:Value} (h:w.heap[g]?=some (.cells #[x0,x1,x2,x3,x4] t (0,0))):(w.setCell ⟨g,0,none⟩ u).heap[g]?=some (.cells #[u,x1,x2,x3,x4] t (0,0)):=cJz h 0 u rfl
theorem bp5_1 {w:World} {g:Nat} {t:TypeId} {x0 x1 x2 x3 x4 u:Value} (h:w.heap[g]?=some (.cells #[x0,x1,x2,x3,x4] t (0,0))):(w.setCell ⟨g,1,none⟩ u).heap[g]?=some (.cells #[x0,u,x2,x3,x4] t (0,0)):=cJz h 1 u rfl
theorem bp5_2 {w:World} {g:Nat} {t:TypeId} {x0 x1 x2 x3 x4 u:Value} (h:w.heap[g]?=some (.cells #[x0,x1,x2,x3,x4] t (0,0))):(w.setCell ⟨g,2,none⟩ u).heap[g]?=some (.cells #[x0,x1,u,x3,x4] t (0,0)):=cJz h 2 u rfl
theorem bp5_3 {w:World} {g:Nat} {t:TypeId} {x0 x1 x2 x3 x4 u:Value} (h:w.heap[g]?=some (.cells #[x0,x1,x2,x3,x4] t (0,0))):(w.setCell ⟨g,3,none⟩ u).heap[g]?=some (.cells #[x0,x1,x2,u,x4] t (0,0)):=cJz h 3 u rfl
theorem bp5_4 {w:World} {g:Nat} {t:TypeId} {x0 x1 x2 x3 x4 u:Value} (h:w.heap[g]?=some (.cells #[x0,x1,x2,x3,x4] t (0,0))):(w.setCell ⟨g,4,none⟩ u).heap[g]?=some (.cells #[x0,x1,x2,x3,u] t (0,0)):=cJz h 4 u rfl
theorem kb_ {p:Prop} (h:p:=by (with_reducible repeat (first|refine dcz ?_ _|refine ccz ?_|refine bGz ?_ _|refine bFz ?_ (Aside0.out (by assumption)) _|apply bp3_0|apply bp3_1|apply bp3_2|apply bp5_0|apply bp5_1|apply bp5_2|apply bp5_3|apply bp5_4));with_reducible exact Aside0.out (by assumption)):p:=h
theorem ar_ {p:Prop} (h:p:=by (try simp only [List.map_toArray,List.map_cons,List.map_nil]);first|done|rfl|(simp only [List.length_drop,List.length_take];rfl)):p:=h
theorem am_ {p:Prop} (h:p:=by simp only [List.map_toArray,List.map_cons,List.map_nil];rfl):p:=h
theorem as_ {p:Prop} (h:p:=by first|(with_reducible assumption)|assumption):p:=h
theorem er_ {p:Prop} (h:p:=by first|rfl|(simp [ckz,clz] <;>rfl)|(simp [*,ckz,clz] <;>rfl)):p:=h
theorem sd_ {p:Prop} (h:p:=by first|rfl|(simp;done)|(simp [*];done)):p:=h
theorem dn_ {p:Prop} (h:p:=by repeat (first|exact Drawn0.refl _|apply Drawn0.step)):p:=h
theorem nl_ {p:Prop} (h:p:=by first|exact Kd.S_nil _ _ _ _ _|exact Kd.N_nil _ _ _ _ _|exact Kd.V_nil _ _ _ _ _|exact Kd.Q_nil _ _ _ _ _|exact Kd.R_nil _ _ _ _ _):p:=h
theorem bc2_ {w:World} {g:Nat} {t:TypeId} {x0 x1:Value} (h:w.heap[g]?=some (.cells #[x0,x1] t (0,0))):w.cell? ⟨g,0,none⟩=some x0/\w.frozen? ⟨g,0,none⟩=false/\w.cell? ⟨g,1,none⟩=some x1/\w.frozen? ⟨g,1,none⟩=false:=⟨(abz h 0).trans rfl,bnz h 0,(abz h 1).trans rfl,bnz h 1⟩
theorem bc3_ {w:World} {g:Nat} {t:TypeId} {x0 x1 x2:Value} (h:w.heap[g]?=some (.cells #[x0,x1,x2] t (0,0))):w.cell? ⟨g,0,none⟩=some x0/\w.frozen? ⟨g,0,none⟩=false/\w.cell? ⟨g,1,none⟩=some x1/\w.frozen? ⟨g,1,none⟩=false/\w.cell? ⟨g,2,none⟩=some x2/\w.frozen? ⟨g,2,none⟩=false:=⟨(abz h 0).trans rfl,bnz h 0,(abz h 1).trans rfl,bnz h 1,(abz h 2).trans rfl,bnz h 2⟩
theorem bc5_ {w:World} {g:Nat} {t:TypeId} {x0 x1 x2 x3 x4:Value} (h:w.heap[g]?=some (.cells #[x0,x1,x2,x3,x4] t (0,0))):w.cell? ⟨g,0,none⟩=some x0/\w.frozen? ⟨g,0,none⟩=false/\w.cell? ⟨g,1,none⟩=some x1/\w.frozen? ⟨g,1,none⟩=false/\w.cell? ⟨g,2,none⟩=some x2/\w.frozen? ⟨g,2,none⟩=false/\w.cell? ⟨g,3,none⟩=some x3/\w.frozen? ⟨g,3,none⟩=false/\w.cell? ⟨g,4,none⟩=some x4/\w.frozen? ⟨g,4,none⟩=false:=⟨(abz h 0).trans rfl,bnz h 0,(abz h 1).trans rfl,bnz h 1,(abz h 2).trans rfl,bnz h 2,(abz h 3).trans rfl,bnz h 3,(abz h 4).trans rfl,bnz h 4⟩
theorem bb_ {W w w1 : World} {g : Nat} {o : Obj} (h : Aside0 (W.heap[g]? = some o)) (hb : Below w.heap.size w w1)
  (h2:W.heap[g]?=some o->w.heap[g]?=some o:=by intro hx;(with_reducible repeat (first|refine dcz ?_ _|refine ccz ?_|refine bGz ?_ _));exact hx):Aside0 (w1.heap[g]?=some o):=⟨aBz (h2 h.out) hb⟩
theorem hs_ {a b w w1 : World} (_HB : Aside0 (Below a.heap.size a b)) (hb : Below w.heap.size w w1)
  (h:Below a.heap.size a w:=by repeat (first|(with_reducible first|exact HB.out|apply anz|apply a0z|apply bTz|refine dEz ?_ (Aside0.out (by assumption)))|exact HB.out)):Aside0 (Below a.heap.size a w1):=⟨dIz h hb⟩
theorem ag_ {n:Nat} {a b:World} (_HB:Aside0 (Below n a b)) (g:Nat) (h:n<=g:=by rw [hg];exact (adz bl_)):Aside0 (n<=g):=⟨h⟩
theorem n1_ {W:World} {g:Nat} {o:Obj} (_h:Aside0 (W.heap[g]?=some o)) (g':Nat) (h:g≠g':=by rw [hg];exact Nat.ne_of_lt (a8z bk_)):Aside0 (g≠g'):=⟨h⟩
theorem n2_ {W:World} {g:Nat} {o:Obj} (_h:Aside0 (W.heap[g]?=some o)) (g':Nat) (h:g'≠g:=by rw [hg];exact Nat.ne_of_gt (a8z bk_)):Aside0 (g'≠g):=⟨h⟩
theorem ob_ {α β:Type} {o:Option α} {f:α->Option β} {b:β} (h:o.bind f=some b): ∃a,Aside0 (o=some a)/\f a=some b:=by
 obtain ⟨a,h1,h2⟩:=Option.bind_eq_some_iff.1 h;exact ⟨a,⟨h1⟩,h2⟩
theorem xd_ {p q:Prop} (x:q) (h:q->p:=by intro hx;(with_reducible repeat (first|apply Kd.N_alloc|apply Kd.N_drewN|apply Kd.N_drew|apply Kd.dmz|apply Kd.dnz|apply Kd.dsz|apply Kd.c9z|apply Kd.cIz|apply Kd.b5z|apply Kd.egz|apply Kd.S_drewN|apply Kd.S_drew|refine Kd.b7z ?_ _|refine Kd.bDz ?_ _|refine Kd.coz ?_));exact hx):p:=h x
section
variable {P : Program} {ops_ : Array Oper} {Q : Exit -> Act -> World -> Prop} {rest : List Oper} {o : Oper} {a : Act} {W : World}
theorem bx_ (N : Tmp) (cs : Array Value) (t : TypeId)
  (h: ∀g,g=W.heap.size-> ∀w1,w1.heap[g]?=some (.cells cs t (0,0))->Below W.heap.size W w1->wpList P ops_ Q rest (a.put o.dst (.pointer (some ⟨g,0,none⟩))) w1)
  (hd:o.dst=some N:=by rfl) (hgd:o.guard=none:=by rfl)
  (hrun:(execOp a.eval o).run P W= .ok (.value (.pointer (some ⟨W.heap.size,0,none⟩))) (W.alloc (.cells cs t (0,0))):=by first|(go_simp;done)|(go_simp;rfl)):wpList P ops_ Q (o::rest) a W:=
 b4z hgd hd hrun h
theorem gl_ (N : Option Tmp) {f : FuncId} {fn : Func} (hf : P.funcs[f]? = some fn) (args : Array Value) {xs : Array Operand} {ts : Array TypeId}
  (h:Calls P f args W fun e w'=> ∃v,e= .returned v/\wpList P ops_ Q rest (a.put N v) w')
  (hd:o.dst=N:=by rfl) (hg:o.guard=none:=by rfl) (hname:(fn.name== "runtime.NumGoroutine")=false:=by kernel_rfl) (hb:fn.body.isSome=true:=by rfl)
  (hop:o.op= .call { callee:= .value (.func f),args:=xs,argTypes:=ts } :=by rfl)
  (hargs:xs.map a.eval=args:=by (try simp only [List.map_toArray,List.map_cons,List.map_nil]);first|done|rfl|(simp only [List.length_drop,List.length_take];rfl)):wpList P ops_ Q (o::rest) a W:=
 goesL_ N hd hg hf hname hb args hop hargs h
end
section
variable {α : Type} {d : Kd α} {e base : Nat} {ok ok' : Nat -> Prop} {w w1 : World} {v : Value} {xs : List α}
theorem nm_ (h:Aside0 (d.N e w base ok v xs)) (hok: ∀k,ok k->ok' k:=by intro _ hk;first|exact hk|exact trivial|((try simp only [and_assoc] at hk);(repeat (have h_:=hk.1;replace hk:=hk.2));((repeat' apply And.intro)<;>first|assumption|exact trivial|(simp [Value.ownBlock];done)))) (hw:d.N e w base ok' v xs->d.N e w1 base ok' v xs:=by intro hx;(with_reducible repeat (first|apply Kd.N_alloc|apply Kd.N_drewN|apply Kd.N_drew));exact hx):d.N e w1 base ok' v xs:=hw (Kd.cjz h.out hok)
theorem vm_ (h:Aside0 (d.V e w base ok v xs)) (hok: ∀k,ok k->ok' k:=by intro _ hk;first|exact hk|exact trivial|((try simp only [and_assoc] at hk);(repeat (have h_:=hk.1;replace hk:=hk.2));((repeat' apply And.intro)<;>first|assumption|exact trivial|(simp [Value.ownBlock];done)))) (hw:d.V e w base ok' v xs->d.V e w1 base ok' v xs:=by intro hx;(with_reducible repeat (first|apply Kd.dmz|apply Kd.dnz|apply Kd.dsz));exact hx):d.V e w1 base ok' v xs:=hw (Kd.drz h.out hok)
theorem rm_ (h:Aside0 (d.R e w base ok v xs)) (hok: ∀k,ok k->ok' k:=by intro _ hk;first|exact hk|exact trivial|((try simp only [and_assoc] at hk);(repeat (have h_:=hk.1;replace hk:=hk.2));((repeat' apply And.intro)<;>first|assumption|exact trivial|(simp [Value.ownBlock];done)))) (hw:d.R e w base ok' v xs->d.R e w1 base ok' v xs:=by intro hx;(with_reducible repeat (first|apply Kd.c9z|apply Kd.cIz|apply Kd.b5z));exact hx):d.R e w1 base ok' v xs:=hw (Kd.aSz h.out hok)
theorem sm_ (h:Aside0 (d.S e w base ok v xs)) (hok: ∀k,ok k->ok' k:=by intro _ hk;first|exact hk|exact trivial|((try simp only [and_assoc] at hk);(repeat (have h_:=hk.1;replace hk:=hk.2));((repeat' apply And.intro)<;>first|assumption|exact trivial|(simp [Value.ownBlock];done)))) (hw:d.S e w base ok' v xs->d.S e w1 base ok' v xs:=by intro hx;(with_reducible repeat (first|apply Kd.egz|apply Kd.S_drewN|apply Kd.S_drew));exact hx):d.S e w1 base ok' v xs:=hw (Kd.cOz h.out hok)
end
theorem Za {p:Prop} (h:p):Aside0 p:=⟨h⟩
theorem Zb {a b:Prop} (h:a) (k:b):a/\b:=⟨h,k⟩
theorem Zc {p:Prop} [Decidable p] (h:decide p=true):p:=of_decide_eq_true h
theorem Zd {p:Prop} [Decidable p] (h:p):decide p=true:=decide_eq_true h
theorem Ze {p:Prop} [Decidable p] (h: ¬p):decide p=false:=decide_eq_false h
theorem Zf {α:Type} {l:List α} {i:Nat} (h:i<l.length):l[i]?=some l[i] :=List.getElem?_eq_getElem h
theorem Zg {α:Type} (l:List α) (i:Nat) (a:α):l.toArray.setIfInBounds i a=(l.set i a).toArray:=List.setIfInBounds_toArray l i a
theorem Zh {α:Type} {x:α} {xs:List α} {a:α} :(x::xs).set 0 a=a::xs:=rfl
theorem Zi {α:Type} {x:α} {xs:List α} {n:Nat} {a:α} :(x::xs).set (n+1) a=x::xs.set n a:=rfl
theorem Zj (w:World) (a:Addr) {u:Value} (h:w.cell? a=some u):a.block<w.heap.size:=World.block_lt_of_cell? w a h
theorem Zk {α:Type} {l:List α} {i:Nat} {a:α} (h:l[i]?=some a): ∃h:i<l.length,l[i] =a:=List.getElem?_eq_some_iff.1 h
theorem Zl {α β:Type} (a:α) (f:α->Option β):(some a).bind f=f a:=rfl
theorem Zm {α:Type} {l:List α} {i:Nat} {a:α} :l.getD i a=l[i]?.getD a:=List.getD_eq_getElem?_getD
theorem Zn {α:Type} {a b:α} (h:some a=some b):a=b:=Option.some.inj h
theorem Zo {α:Type} {l:List α} {i:Nat} {a:α} (h:l[i]?=some a):a∈l:=List.mem_of_getElem? h
theorem Zp {n m k:Nat} (h:n<m) (g:m<=k):n<k:=Nat.lt_of_lt_of_le h g
theorem Zq {α:Type} [BEq α] [LawfulBEq α] {a b:α} (h:a≠b):(a==b)=false:=beq_eq_false_iff_ne.mpr h
theorem Zr {b:Bool} (h:b≠true):b=false:=Bool.eq_false_iff.mpr h
theorem Zt {n m k:Nat} (h:n<=m) (g:m<=k):n<=k:=Nat.le_trans h g
theorem Zu (n:Nat):(n:Int).toNat=n:=Int.toNat_natCast n
theorem Zv (n:Nat):n<=n:=Nat.le_refl n
theorem Zw (n:Nat) (w:World):Below n w w:=Below.refl n w
theorem Zx {α:Type} (a b:α):(some a=some b)=(a=b):=Option.some.injEq a b
theorem Zy {α β:Type} (a:α) (b:β) (c:α) (d:β):((a,b)=(c,d))=(a=c/\b=d):=Prod.mk.injEq a b c d
theorem Zz {p:Prop} (h:p):p=True:=eq_true h
theorem Ya {c:Prop} {h:Decidable c} (hc:c) {α:Sort _} {t e:α} :ite c t e=t:=if_pos hc
theorem Yb {c:Prop} {h:Decidable c} (hc: ¬c) {α:Sort _} {t e:α} :ite c t e=e:=if_neg hc
theorem Yc {α:Type} [BEq α] [LawfulBEq α] {a b:α} (h:a=b):(a !=b)=false:=bne_eq_false_iff_eq.mpr h
theorem Yd {α:Type} [BEq α] [LawfulBEq α] {a b:α} (h:a≠b):(a !=b)=true:=bne_iff_ne.mpr h
theorem Ye {α:Type} [BEq α] [LawfulBEq α] {a b:α} (h:a=b):(a==b)=true:=beq_iff_eq.mpr h
theorem Yg {α:Type} (x:Option α):LeO x x:=LeO.refl x
theorem Yh {α:Type} (x:Option α):LeO none x:=LeO.none x
theorem Yi {α:Type} {c:Prop} [Decidable c] {a a' b b':Option α} (h1:LeO a a') (h2:LeO b b'):LeO (if c then a else b) (if c then a' else b'):=LeO.ite h1 h2
theorem Yj {α β:Type} {a a':Option α} {f f':α->Option β} (h:LeO a a') (g: ∀x,LeO (f x) (f' x)):LeO (a.bind f) (a'.bind f'):=LeO.bind h g
theorem Yf {a b:Prop} (h:a) (k: ¬a):b:=absurd h k
end Go.Proofs.Xc
end
section
namespace Go.Proofs.Xc
open Go.RowKit Go.Proofs.Pw Go.Proofs.Pl Go.Proofs.Pm
attribute [local go_sem] bcz bdz bpz bqz a4z a5z bez bfz
def bsz.f (a0:Int):Option (ByteArray×Int×Int×Int×Int×Bool):=
 if a0=1 then some (⟨#[106,118]⟩,8,285,106,4,true) else if a0=2 then some (⟨#[106,99]⟩,16,69643,106,4,true)
 else if a0=3 then some (⟨#[105,114]⟩,8,285,105,3,true) else if a0=4 then some (⟨#[105,99]⟩,8,285,105,4,true)
 else if a0=5 then some (⟨#[98,98]⟩,8,285,98,4,true) else if a0=6 then some (⟨#[107,112]⟩,8,285,112,4,true)
 else some (⟨#[]⟩,0,0,0,0,false)
theorem bsz.low (a0 : Int) (w : World) (h : a0 < 1) :
  Calls Tryz.prog 75 #[.int .i64 a0] w fun e w'=>e= .returned (.tuple #[.agg #[.string ⟨#[]⟩, .int .i64 0, .int .u32 0, .int .u8 0, .int .i64 0], .bool false])/\Below w.heap.size w w':=by
 go_enter Tryz.func75,Tryz.ntmps75;go_wp2;exact bodyPost_ret (v:= .tuple #[.agg #[.string ⟨#[]⟩, .int .i64 0, .int .u32 0, .int .u8 0, .int .i64 0], .bool false]) (by simp [results,Tryz.results75,go_sem]) rfl ⟨rfl,(Zw _ _).alloc (Zv _) _⟩
theorem bsz.high (a0 : Int) (w : World) (h : 6 < a0) :
  Calls Tryz.prog 75 #[.int .i64 a0] w fun e w'=>e= .returned (.tuple #[.agg #[.string ⟨#[]⟩, .int .i64 0, .int .u32 0, .int .u8 0, .int .i64 0], .bool false])/\Below w.heap.size w w':=by
 have h1: ¬a0<1:=by omega
 go_enter Tryz.func75,Tryz.ntmps75;go_wp2;exact bodyPost_ret (v:= .tuple #[.agg #[.string ⟨#[]⟩, .int .i64 0, .int .u32 0, .int .u8 0, .int .i64 0], .bool false]) (by simp [results,Tryz.results75,go_sem]) rfl ⟨rfl,(Zw _ _).alloc (Zv _) _⟩
def dvz.v:Value:= .agg #[.string ⟨#[106,118]⟩, .int .i64 8, .int .u32 285, .int .u8 106, .int .i64 4, .string ⟨#[106,99]⟩, .int .i64 16, .int .u32 69643, .int .u8 106, .int .i64 4, .string ⟨#[105,114]⟩, .int .i64 8, .int .u32 285, .int .u8 105, .int .i64 3, .string ⟨#[105,99]⟩, .int .i64 8, .int .u32 285, .int .u8 105, .int .i64 4, .string ⟨#[98,98]⟩, .int .i64 8, .int .u32 285, .int .u8 98, .int .i64 4, .string ⟨#[107,112]⟩, .int .i64 8, .int .u32 285, .int .u8 112, .int .i64 4]
theorem dvz.any (w : World) :
  Calls Tryz.prog 111 #[] w fun e w'=>e= .returned dvz.v/\Below w.heap.size w w':=by
 go_enter Tryz.func111,Tryz.ntmps111
 go_wp2_with ((with_reducible refine dkz rfl ?_);refine wpList_store_row rfl 143 _ _ rfl w.heap.size _ rfl rfl 143 _ (heap_alloc_new _ _) kr_ rfl kr_ ?_)
 exact bodyPost_ret (results_cell_row Tryz.results111 _ _ w.heap.size _ _ (0,0) _ rfl (setRow_heap _ _ _ _ _ _ (heap_alloc_new _ _)) Tryz.underlying143 rfl kr_) rfl ⟨rfl,below_setRow ((Zw _ _).alloc (Zv _) _) (Zv _) _⟩
theorem bsz.at_ (a0 : Int) (s : ByteArray) (x2 x3 x4 x5 : Int) (h0 : ¬ a0 < 1) (h6 : ¬ 6 < a0) (hi : ∀ w, (Instr.index 143 dvz.v (.int .i64 (a0 - 1))).run Tryz.prog w = .ok (.agg #[.string s, .int .i64 x2, .int .u32 x3, .int .u8 x4, .int .i64 x5]) w) (w : World) :
  Calls Tryz.prog 75 #[.int .i64 a0] w fun e w'=>e= .returned (.tuple #[.agg #[.string s, .int .i64 x2, .int .u32 x3, .int .u8 x4, .int .i64 x5], .bool true])/\Below w.heap.size w w':=by
 go_enter Tryz.func75,Tryz.ntmps75
 go_wp2_with fail
 refine (dvz.any _).mono ?_;rintro e w1 ⟨rfl,hb⟩;have hh:w1.heap[w.heap.size]?=some (.cells #[.string ⟨#[]⟩, .int .i64 0, .int .u32 0, .int .u8 0, .int .i64 0] 109 (0,0)):=(hb.block _ (by simp)).trans (heap_alloc_new _ _)
 go_wp2_with ((with_reducible refine dkz rfl ?_);(refine wpList_store_row rfl 109 _ _ rfl w.heap.size _ rfl rfl 109 _ hh kr_ rfl kr_ ?_))
 refine bodyPost_ret (v:= .tuple #[.agg #[.string s, .int .i64 x2, .int .u32 x3, .int .u8 x4, .int .i64 x5], .bool true]) ?_ rfl ⟨rfl,below_setRow (((Zw _ _).alloc (Zv _) _).trans (hb.mono (by simp))) (Zv _) _⟩;rw [results_cell_tmp Tryz.results75];simp only [Array.getD_eq_getD_getElem?,List.getElem?_toArray,List.getElem?_cons_succ,List.getElem?_cons_zero,Option.getD_some,asAddr,Sem.run_pure,Result.andThen_ok];rw [run_loadVar_row _ w.heap.size 109 109 _ (0,0) _ (setRow_heap _ _ _ _ _ _ hh) Tryz.underlying109 rfl kr_];rfl
theorem bsz.calls (a0 : Int) (r1 : ByteArray) (r2 : Int) (r3 : Int) (r4 : Int) (r5 : Int) (r6 : Bool) (w : World) (h : bsz.f a0 = some (r1, r2, r3, r4, r5, r6)) :
  Calls Tryz.prog 75 #[.int .i64 a0] w fun e w'=>e= .returned (.tuple #[.agg #[.string r1, .int .i64 r2, .int .u32 r3, .int .u8 r4, .int .i64 r5], .bool r6])/\Below w.heap.size w w':=by
 unfold bsz.f at h;by_cases h1:a0=1
 ·subst h1;simp at h;obtain ⟨rfl,rfl,rfl,rfl,rfl,rfl⟩:=h;exact bsz.at_ 1 _ _ _ _ _ (by decide) (by decide) (fun _=>by kernel_rfl) w
 rw [Yb h1] at h;by_cases h2:a0=2
 ·subst h2;simp at h;obtain ⟨rfl,rfl,rfl,rfl,rfl,rfl⟩:=h;exact bsz.at_ 2 _ _ _ _ _ (by decide) (by decide) (fun _=>by kernel_rfl) w
 rw [Yb h2] at h;by_cases h3:a0=3
 ·subst h3;simp at h;obtain ⟨rfl,rfl,rfl,rfl,rfl,rfl⟩:=h;exact bsz.at_ 3 _ _ _ _ _ (by decide) (by decide) (fun _=>by kernel_rfl) w
 rw [Yb h3] at h;by_cases h4:a0=4
 ·subst h4;simp at h;obtain ⟨rfl,rfl,rfl,rfl,rfl,rfl⟩:=h;exact bsz.at_ 4 _ _ _ _ _ (by decide) (by decide) (fun _=>by kernel_rfl) w
 rw [Yb h4] at h;by_cases h5:a0=5
 ·subst h5;simp at h;obtain ⟨rfl,rfl,rfl,rfl,rfl,rfl⟩:=h;exact bsz.at_ 5 _ _ _ _ _ (by decide) (by decide) (fun _=>by kernel_rfl) w
 rw [Yb h5] at h;by_cases h6:a0=6
 ·subst h6;simp at h;obtain ⟨rfl,rfl,rfl,rfl,rfl,rfl⟩:=h;exact bsz.at_ 6 _ _ _ _ _ (by decide) (by decide) (fun _=>by kernel_rfl) w
 rw [Yb h6] at h;simp at h;obtain ⟨rfl,rfl,rfl,rfl,rfl,rfl⟩:=h;by_cases h0:a0<1
 ·exact bsz.low a0 w h0
 ·exact bsz.high a0 w (by omega)
def cEz.f (a0_0:Int) (a0_1:Int) (a0_2:Int):Option (Int×Int):=(bsz.f a0_0).bind fun bt112=>(if bt112.2.2.2.1=106 then (some (8,0)) else (if bt112.2.2.2.1=105 then (some (16,0)) else (if bt112.2.2.2.1=98 then (some (1,4)) else (some (1,0)))))
theorem cEz.calls (a0_0:Int) (a0_1:Int) (a0_2:Int) (r1:Int) (r2:Int) (w:World) (h:cEz.f a0_0 a0_1 a0_2=some (r1,r2)):
 Calls Tryz.prog 89 #[.agg #[.int .i64 a0_0, .int .i64 a0_1, .int .i64 a0_2]] w fun e w'=>e= .returned (.tuple #[.int .i64 r1, .int .i64 r2])/\Below w.heap.size w w':=by
 have hu23:=Tryz.underlying23;have hu109:=Tryz.underlying109;have HB:=Za (Zw w.heap.size w);have H:=h;clear h;unfold cEz.f at H;obtain ⟨⟨t112,t113,t114,t115,t116,t117⟩,A2,H⟩:=ob_ H
 (try dsimp only at H)
 have HH:=Za H;clear H;go_enter Tryz.func89,Tryz.ntmps89
 go_wp2_with (first|((with_reducible refine aMz (N:=1) rfl ?_);refine bx_ 1 #[.int .i64 a0_0, .int .i64 a0_1, .int .i64 a0_2] 23 ?_;intro gb111 hg w4 hbox hb;have n_:=Zb (hs_ HB hb) (Zb (Za (hbox)) (Zb (ag_ HB gb111) (ag_ HB gb111)));clear HB;obtain ⟨HB,BK111,GW111,GE111⟩:=n_;clear hb hbox hg;obtain ⟨_,_,_,_,_,_⟩:=bc3_ BK111.out)|((with_reducible refine aaz (f:=75) rfl ?_);refine gl_ (some 9) Tryz.func75 #[.int .i64 a0_0] ?_;(with_reducible refine (bsz.calls a0_0 t112 t113 t114 t115 t116 t117 _ A2.out).mono ?_);rintro e w6 ⟨rfl,hb⟩;refine ⟨_,rfl,?_⟩;have n_:=Zb (bb_ BK111 hb) (hs_ HB hb);clear BK111 HB;obtain ⟨BK111,HB⟩:=n_;(try clear hb))|((with_reducible refine aMz (N:=4) rfl ?_);refine b4z ?hg (N:=4) ?hd (cs:= #[.string (⟨#[]⟩:ByteArray), .int .i64 0, .int .u32 0, .int .u8 0, .int .i64 0]) (t:=109) ?hr ?_;(case hd=>rfl);(case hg=>rfl);(case hr=>first|(go_simp;done)|(go_simp;rfl));intro gb118 hg w7 hbox hb;have n_:=Zb (bb_ BK111 hb) (Zb (hs_ HB hb) (Zb (Za (hbox)) (Zb (ag_ HB gb118) (Zb (ag_ HB gb118) (Zb (n1_ BK111 gb118) (n2_ BK111 gb118))))));clear BK111 HB;obtain ⟨BK111,HB,BK118,GW118,GE118,NB111_118,NB118_111⟩:=n_;clear hb hbox hg;have hnb8:=NB118_111.out;have hnc8:=NB111_118.out;obtain ⟨_,_,_,_,_,_,_,_,_,_⟩:=bc5_ BK118.out))
 all_goals
  go_ret2;refine ⟨?_,bl_⟩;have H:=HH.out
  simp_all
def aCz.f (a0_0:Int) (a0_1:Int) (a0_2:Int):Option (Bool):=(bsz.f a0_0).bind fun bt102=>(if bt102.2.2.2.2.2=true then (if a0_1>=1 then (if a0_1<=8 then (if a0_2>=1 then (some (decide (a0_2<=bt102.2.2.2.2.1))) else (some false)) else (some false)) else (some false)) else (some false))
theorem aCz.calls (a0_0:Int) (a0_1:Int) (a0_2:Int) (r:Bool) (w:World) (h:aCz.f a0_0 a0_1 a0_2=some r):
 Calls Tryz.prog 41 #[.agg #[.int .i64 a0_0, .int .i64 a0_1, .int .i64 a0_2]] w fun e w'=>e= .returned (.bool r)/\Below w.heap.size w w':=by
 have hu23:=Tryz.underlying23;have hu109:=Tryz.underlying109;have HB:=Za (Zw w.heap.size w);have H:=h;clear h;unfold aCz.f at H;obtain ⟨⟨t102,t103,t104,t105,t106,t107⟩,A2,H⟩:=ob_ H
 (try dsimp only at H)
 have HH:=Za H;clear H;go_enter Tryz.func41,Tryz.ntmps41
 go_wp2_with (first|((with_reducible refine aMz (N:=1) rfl ?_);refine bx_ 1 #[.int .i64 a0_0, .int .i64 a0_1, .int .i64 a0_2] 23 ?_;intro gb101 hg w7 hbox hb;have n_:=Zb (hs_ HB hb) (Zb (Za (hbox)) (Zb (ag_ HB gb101) (ag_ HB gb101)));clear HB;obtain ⟨HB,BK101,GW101,GE101⟩:=n_;clear hb hbox hg;obtain ⟨_,_,_,_,_,_⟩:=bc3_ BK101.out)|((with_reducible refine aaz (f:=75) rfl ?_);refine gl_ (some 8) Tryz.func75 #[.int .i64 a0_0] ?_;(with_reducible refine (bsz.calls a0_0 t102 t103 t104 t105 t106 t107 _ A2.out).mono ?_);rintro e w9 ⟨rfl,hb⟩;refine ⟨_,rfl,?_⟩;have n_:=Zb (bb_ BK101 hb) (hs_ HB hb);clear BK101 HB;obtain ⟨BK101,HB⟩:=n_;(try clear hb))|((with_reducible refine aMz (N:=3) rfl ?_);refine b4z ?hg (N:=3) ?hd (cs:= #[.string (⟨#[]⟩:ByteArray), .int .i64 0, .int .u32 0, .int .u8 0, .int .i64 0]) (t:=109) ?hr ?_;(case hd=>rfl);(case hg=>rfl);(case hr=>first|(go_simp;done)|(go_simp;rfl));intro gb108 hg w10 hbox hb;have n_:=Zb (bb_ BK101 hb) (Zb (hs_ HB hb) (Zb (Za (hbox)) (Zb (ag_ HB gb108) (Zb (ag_ HB gb108) (Zb (n1_ BK101 gb108) (n2_ BK101 gb108))))));clear BK101 HB;obtain ⟨BK101,HB,BK108,GW108,GE108,NB101_108,NB108_101⟩:=n_;clear hb hbox hg;have hnb11:=NB108_101.out;have hnc11:=NB101_108.out;obtain ⟨_,_,_,_,_,_,_,_,_,_⟩:=bc5_ BK108.out;obtain ⟨_,_,_,_,_,_⟩:=bc3_ BK101.out))
 all_goals
  go_ret;refine ⟨congrArg (fun b=>Ending.returned (.bool b)) ?_,bl_⟩;have H:=HH.out
  simp_all
 all_goals (rw [Yb (by omega)] at H;simp_all)
def a6z.j0:Nat->Int->Bool->Int->Int->Int->Option (Int×Int)
 |0,_,_,_,_,_=>none
 |k+1,x1,x9,x112000,x112001,x112002=>if x9=true then (some (0,1)) else (if x1>4096 then (some (0,11)) else ((cEz.f x112000 x112001 x112002).bind fun bt113=>(if (wrap64 (bt113.1*x112001))=0 then (none) else (some (wrap64 (bt113.1*(mx (wrap64 (Int.tdiv (wrap64 ((wrap64 ((wrap64 (x1+bt113.2))+(wrap64 (bt113.1*x112001)))) - 1)) (wrap64 (bt113.1*x112001)))) 1)),0)))))
def a6z.f (k:Nat) (a0_0:Int) (a0_1:Int) (a0_2:Int) (a1:Int):Option (Int×Int):=(aCz.f a0_0 a0_1 a0_2).bind fun t112=>(if t112=true then (a6z.j0 k a1 (decide (a1<0)) a0_0 a0_1 a0_2) else (a6z.j0 k a1 true a0_0 a0_1 a0_2))
theorem a6z.aXz: ∀k,(∀y0 y1 y2 y3 y4,LeO (a6z.j0 k y0 y1 y2 y3 y4) (a6z.j0 (k+1) y0 y1 y2 y3 y4))
 |0=>fun _ _ _ _ _ r h=>by simp [a6z.j0] at h
 |k+1=>by
  have ih0:=a6z.aXz k
  ·intro y0 y1 y2 y3 y4;unfold a6z.j0
   repeat' with_reducible first|apply ih0|apply Yg|apply Yh|apply Yi|refine Yj ?_ fun _=>?_
theorem a6z.mono: ∀a0 a1 a2 a3 k,LeO (a6z.f k a0 a1 a2 a3) (a6z.f (k+1) a0 a1 a2 a3):=by
 intro a0 a1 a2 a3 k;have ih0:=a6z.aXz k;unfold a6z.f
 repeat' with_reducible first|apply ih0|apply Yg|apply Yh|apply Yi|refine Yj ?_ fun _=>?_
theorem a6z.calls (k : Nat) (a0_0 : Int) (a0_1 : Int) (a0_2 : Int) (a1 : Int) (r1 : Int) (r2 : Int) (w : World) (h : a6z.f k a0_0 a0_1 a0_2 a1 = some (r1, r2)) :
  Calls Tryz.prog 88 #[.agg #[.int .i64 a0_0, .int .i64 a0_1, .int .i64 a0_2], .int .i64 a1] w fun e w'=>e= .returned (.tuple #[.int .i64 r1, .int .i64 r2])/\Below w.heap.size w w':=by
 have hu23:=Tryz.underlying23;have HB:=Za (Zw w.heap.size w);have H:=h;clear h;unfold a6z.f at H;have HC3:=Za H;clear H;go_enter Tryz.func88,Tryz.ntmps88
 go_upto_region 1 with (first|((with_reducible refine aMz (N:=2) rfl ?_);refine bx_ 2 #[.int .i64 a0_0, .int .i64 a0_1, .int .i64 a0_2] 23 ?_;intro gb111 hg w4 hbox hb;have n_:=Zb (hs_ HB hb) (Zb (Za (hbox)) (Zb (ag_ HB gb111) (ag_ HB gb111)));clear HB;obtain ⟨HB,BK111,GW111,GE111⟩:=n_;clear hb hbox hg))
 (try simp only [Act.put,Zg,Zh,Zi])
 go_cut [9] (fun v9 wc=> ∃(kq:Nat) (x9_2:Bool),v9= .bool x9_2/\Aside0 (a6z.j0 kq a1 x9_2 a0_0 a0_1 a0_2=some (r1,r2))/\Aside0 (kq<=k)/\Aside0 (wc.heap[gb111]?=some (.cells #[.int .i64 a0_0, .int .i64 a0_1, .int .i64 a0_2] 23 (0,0)))/\Aside0 (Below w.heap.size w wc))
 case first=>
  have H:=HC3.out;clear HC3;obtain ⟨t112,A5,H⟩:=ob_ H
  (try dsimp only at H)
  by_cases c6:t112=true
  ·subst c6;rw [Ya rfl] at H;have H':=Za H;clear H;obtain ⟨_,_,_,_,_,_⟩:=bc3_ BK111.out
   go_wp2_with (first|((with_reducible refine aaz (f:=41) rfl ?_);refine gl_ (some 11) Tryz.func41 #[.agg #[.int .i64 a0_0, .int .i64 a0_1, .int .i64 a0_2]] ?_;(with_reducible refine (aCz.calls a0_0 a0_1 a0_2 true _ A5.out).mono ?_);rintro e w8 ⟨rfl,hb⟩;refine ⟨_,rfl,?_⟩;have n_:=Zb (bb_ BK111 hb) (hs_ HB hb);clear BK111 HB;obtain ⟨BK111,HB⟩:=n_;(try clear hb)))
   go_meet
   case rel=>exact ⟨_,(decide (a1<0)),sd_,H',⟨by first|omega|exact Zv _⟩,⟨bk_⟩,⟨bl_⟩⟩
  ·replace c6:=Zr c6;subst c6;rw [Yb (show¬(false=true) by decide)] at H;have H':=Za H;clear H;obtain ⟨_,_,_,_,_,_⟩:=bc3_ BK111.out
   go_wp2_with (first|((with_reducible refine aaz (f:=41) rfl ?_);refine gl_ (some 11) Tryz.func41 #[.agg #[.int .i64 a0_0, .int .i64 a0_1, .int .i64 a0_2]] ?_;(with_reducible refine (aCz.calls a0_0 a0_1 a0_2 false _ A5.out).mono ?_);rintro e w10 ⟨rfl,hb⟩;refine ⟨_,rfl,?_⟩;have n_:=Zb (bb_ BK111 hb) (hs_ HB hb);clear BK111 HB;obtain ⟨BK111,HB⟩:=n_;(try clear hb)))
   go_meet
   case rel=>exact ⟨_,(true),sd_,H',⟨by first|omega|exact Zv _⟩,⟨bk_⟩,⟨bl_⟩⟩
 case rest=>
  clear HC3;obtain ⟨kq,x9_2,rfl,HA,HJ2,BK111,HB⟩:=hcut;rcases kq with _|kj2
  ·exact Yf HA.out (by simp [a6z.j0])
  have H:=HA.out;clear HA;simp only [a6z.j0] at H;by_cases c11:x9_2=true
  ·subst c11;rw [Ya rfl] at H;simp only [Zx,Zy] at H;obtain ⟨rfl,rfl⟩:=H;go_wp2;go_ret2;exact ⟨er_,bl_⟩
  ·replace c11:=Zr c11;subst c11;rw [Yb (show¬(false=true) by decide)] at H;by_cases c12:a1>4096
   ·rw [Ya c12] at H;have c12b0:decide (4096<a1)=true:=Zd c12;clear c12;simp only [Zx,Zy] at H;obtain ⟨rfl,rfl⟩:=H;go_wp2;go_ret2;exact ⟨er_,bl_⟩
   ·rw [Yb c12] at H;have c12b0:decide (4096<a1)=false:=Ze c12;clear c12;obtain ⟨⟨t113,t114⟩,A13,H⟩:=ob_ H
    (try dsimp only at H)
    by_cases c14:(wrap64 (t113*a0_1))=0
    ·rw [Ya c14] at H;exact Yf H (by simp)
    ·rw [Yb c14] at H;have c14b0:((wrap64 (t113*a0_1))==0)=false:=Zq c14;have c14b1:((wrap64 (t113*a0_1)) !=0)=true:=Yd c14;obtain ⟨ji15,hji15⟩: ∃j_:Int,(mx (wrap64 (Int.tdiv (wrap64 ((wrap64 ((wrap64 (a1+t114))+(wrap64 (t113*a0_1)))) - 1)) (wrap64 (t113*a0_1)))) 1)=j_:=⟨_,rfl⟩
     replace H:(some (wrap64 (t113*(ji15)),0))=some (r1,r2):=by first|(rw [hji15] at H;exact H)|(simp only [hji15] at H|-;exact H)
     (try rw [hji15] at A13)
     have hji15_:(if (wrap64 (Int.tdiv (wrap64 ((wrap64 ((wrap64 (a1+t114))+(wrap64 (t113*a0_1)))) - 1)) (wrap64 (t113*a0_1))))<1 then 1 else (wrap64 (Int.tdiv (wrap64 ((wrap64 ((wrap64 (a1+t114))+(wrap64 (t113*a0_1)))) - 1)) (wrap64 (t113*a0_1)))))=ji15:=hji15;simp only [Zx,Zy] at H;obtain ⟨rfl,rfl⟩:=H;obtain ⟨_,_,_,_,_,_⟩:=bc3_ BK111.out
     go_wp2_with (first|((with_reducible refine aaz (f:=89) rfl ?_);refine gl_ (some 22) Tryz.func89 #[.agg #[.int .i64 a0_0, .int .i64 a0_1, .int .i64 a0_2]] ?_;(with_reducible refine (cEz.calls a0_0 a0_1 a0_2 t113 t114 _ A13.out).mono ?_);rintro e w17 ⟨rfl,hb⟩;refine ⟨_,rfl,?_⟩;have n_:=Zb (bb_ BK111 hb) (hs_ HB hb);clear BK111 HB;obtain ⟨BK111,HB⟩:=n_;(try clear hb);obtain ⟨_,_,_,_,_,_⟩:=bc3_ BK111.out))
     go_ret2;exact ⟨by first|rfl|(simp [ckz,clz] <;>rfl)|(simp only [<-hji15];first|rfl|(simp [ckz,clz] <;>rfl))|(simp [*,ckz,clz] <;>rfl),bl_⟩
def aTz.l0:Nat->List Int->List Int->Int->Int->Option (Bool)
 |0,_,_,_,_=>none
 |k+1,x0,x1,x12,x13=>if x13<x12 then (if 0<=x13 then (if x13<(x0.length:Int) then (if x13<(x1.length:Int) then (if (rd x0 x13)=(rd x1 x13) then (aTz.l0 k x0 x1 x12 (wrap64 (x13+1))) else (some false)) else (none)) else (none)) else (none)) else (some true)
def aTz.f (k:Nat) (l0:List Int) (l1:List Int):Option (Bool):=if (l0.length:Int)=(l1.length:Int) then (aTz.l0 k l0 l1 (l0.length:Int) 0) else (some false)
theorem aTz.calls (k : Nat) (A0 : Option Addr) (c0 : Nat) (l0 : List Int) (A1 : Option Addr) (c1 : Nat) (l1 : List Int) (r : Bool) (w : World) (hr0 : Kd.C (Kd.int .u8) w A0 l0.length l0) (hc0 : l0.length <= c0) (hr1 : Kd.C (Kd.int .u8) w A1 l1.length l1) (hc1 : l1.length <= c1) (h : aTz.f k l0 l1 = some r) :
  Calls Tryz.prog 54 #[.slice A0 l0.length c0, .slice A1 l1.length c1] w fun e w'=>e= .returned (.bool r)/\Drawn0 w w':=by
 have HR0:=Za hr0;have HC0:=Za hc0;clear hr0 hc0;have HR1:=Za hr1;have HC1:=Za hc1;clear hr1 hc1;have H:=h;clear h;unfold aTz.f at H;by_cases c3:(l0.length:Int)=(l1.length:Int)
 rotate_left
 ·rw [Yb c3] at H;have c3b0:((l0.length:Int)==(l1.length:Int))=false:=Zq c3;have c3b1:((l0.length:Int) !=(l1.length:Int))=true:=Yd c3
  have c3b2:(l0.length==l1.length)=false:=by first|simpa using c3|(simp at c3|-;omega)
  obtain rfl:=Zn H;go_enter Tryz.func54,Tryz.ntmps54;go_wp2
  repeat (go_quiet (fail);try go_wp2)
  go_ret;exact ⟨sd_,dn_⟩
 rw [Ya c3] at H;have c3b0:((l0.length:Int)==(l1.length:Int))=true:=Ye c3;have c3b1:((l0.length:Int) !=(l1.length:Int))=false:=Yc c3
 have c3b2:(l0.length==l1.length)=true:=by first|simpa using c3|(simp at c3|-;omega)
 clear c3;have H':=Za H;clear H;go_enter Tryz.func54,Tryz.ntmps54;go_wp2
 repeat (go_quiet (fail);try go_wp2)
 go_loopg [13] k (fun kq v13 w'=> ∃(x13_1:Int),v13= .int .i64 x13_1/\Aside0 (aTz.l0 kq l0 l1 (l0.length:Int) x13_1=some r)/\Aside0 (kq<=k)/\Drawn0 w w')
 case atStart=>exact ⟨(0),sd_,H',⟨Zv _⟩,dn_⟩
 clear H';clear c3b0 c3b1 c3b2;obtain ⟨x13_1,rfl,HA,HK1,⟨m1,rfl⟩⟩:=hrel;rcases gk with _|k1
 ·exact Yf HA.out (by simp [aTz.l0])
 have H:=HA.out;clear HA;simp only [aTz.l0] at H;by_cases c4:x13_1<(l0.length:Int)
 rotate_left
 ·rw [Yb c4] at H;have c4b0:=Ze c4;clear c4;obtain rfl:=Zn H;go_wp2
  repeat (go_quiet (fail);try go_wp2)
  go_ret;exact ⟨sd_,dn_⟩
 rw [Ya c4] at H;have c4b0:=Zd c4;clear c4;by_cases c5:0<=x13_1
 rotate_left
 ·rw [Yb c5] at H;exact Yf H (by simp)
 rw [Ya c5] at H;have c5b0:=Zd c5;clear c5;by_cases c6:x13_1<(l0.length:Int)
 rotate_left
 ·rw [Yb c6] at H;exact Yf H (by simp)
 rw [Ya c6] at H;have c6b0:=Zd c6;clear c6;by_cases c7:x13_1<(l1.length:Int)
 rotate_left
 ·rw [Yb c7] at H;exact Yf H (by simp)
 rw [Ya c7] at H;have c7b0:=Zd c7;clear c7;by_cases c8:(rd l0 x13_1)=(rd l1 x13_1)
 rotate_left
 ·rw [Yb c8] at H;have c8b0:((rd l0 x13_1)==(rd l1 x13_1))=false:=Zq c8;have c8b1:((rd l0 x13_1) !=(rd l1 x13_1))=true:=Yd c8;obtain rfl:=Zn H;have p109:0<=(x13_1:Int):=Zc as_;have q109:x13_1<(l0.length:Int):=Zc as_;obtain ⟨_,e109,hx109_0⟩:=Kd.boz HR0.out x13_1 p109 q109;cases e109
  replace p109:=Zz p109;replace q109:=Zz q109;have p110:0<=(x13_1:Int):=Zc as_;have q110:x13_1<(l1.length:Int):=Zc as_;obtain ⟨_,e110,hx110_0⟩:=Kd.boz HR1.out x13_1 p110 q110;cases e110
  replace p110:=Zz p110;replace q110:=Zz q110;go_wp2
  repeat (go_quiet (fail);try go_wp2)
  go_ret;exact ⟨sd_,dn_⟩
 rw [Ya c8] at H;have c8b0:((rd l0 x13_1)==(rd l1 x13_1))=true:=Ye c8;have c8b1:((rd l0 x13_1) !=(rd l1 x13_1))=false:=Yc c8;clear c8;have H':=Za H;clear H;have p109:0<=(x13_1:Int):=Zc as_;have q109:x13_1<(l0.length:Int):=Zc as_;obtain ⟨_,e109,hx109_0⟩:=Kd.boz HR0.out x13_1 p109 q109;cases e109
 replace p109:=Zz p109;replace q109:=Zz q109;have p110:0<=(x13_1:Int):=Zc as_;have q110:x13_1<(l1.length:Int):=Zc as_;obtain ⟨_,e110,hx110_0⟩:=Kd.boz HR1.out x13_1 p110 q110;cases e110
 replace p110:=Zz p110;replace q110:=Zz q110;go_wp2
 repeat (go_quiet (fail);try go_wp2)
 go_roundg k1
 case measure=>have:=HK1.out;omega
 case rel=>exact ⟨(wrap64 (x13_1+1)),sd_,H',⟨by have:=HK1.out;omega⟩,dn_⟩
mutual
def aLz.l0:Nat->List Int->List (List Int)->Int->Int->Option (List Int×Int)
 |0,_,_,_,_=>none
 |k+1,x4,x14,x15,x16=>if x16<x15 then (if 0<=x16 then (if x16<(x14.length:Int) then (if ((rd_L1 x14 x16).length:Int)=(x4.length:Int) then (aLz.l1 k x4 x14 x15 x16 (rd_L1 x14 x16) ((rd_L1 x14 x16).length:Int) 0) else (some (([] :List Int),1))) else (none)) else (none)) else (some (x4,0))
def aLz.l1:Nat->List Int->List (List Int)->Int->Int->List Int->Int->Int->Option (List Int×Int)
 |0,_,_,_,_,_,_,_=>none
 |k+1,x4,x14,x15,x16,x25,x26,x27=>if x27<x26 then (if 0<=x27 then (if x27<(x25.length:Int) then (if x27<(x4.length:Int) then (aLz.l1 k (x4.set (x27:Int).toNat (Go.bits .xor .u8 (rd x4 x27) (rd x25 x27))) x14 x15 x16 x25 x26 (wrap64 (x27+1))) else (none)) else (none)) else (none)) else (aLz.l0 k x4 x14 x15 (wrap64 (x16+1)))
end
def aLz.f (k:Nat) (l0:List (List Int)):Option (List Int×Int):=if 0<(l0.length:Int) then (if 0<=((rd_L1 l0 0).length:Int) then (if (((rd_L1 l0 0).length:Int):Int).toNat<=281474976710656 then (aLz.l0 k (List.replicate (((rd_L1 l0 0).length:Int):Int).toNat 0) l0 (l0.length:Int) 0) else (none)) else (none)) else (none)
theorem aLz.aXz: ∀k,(∀y0 y1 y2 y3,LeO (aLz.l0 k y0 y1 y2 y3) (aLz.l0 (k+1) y0 y1 y2 y3))/\(∀y0 y1 y2 y3 y4 y5 y6,LeO (aLz.l1 k y0 y1 y2 y3 y4 y5 y6) (aLz.l1 (k+1) y0 y1 y2 y3 y4 y5 y6))
 |0=>⟨fun _ _ _ _ r h=>by simp [aLz.l0] at h,fun _ _ _ _ _ _ _ r h=>by simp [aLz.l1] at h⟩
 |k+1=>by
  obtain ⟨ih0,ih1⟩:=aLz.aXz k;refine ⟨?_,?_⟩
  ·intro y0 y1 y2 y3;unfold aLz.l0
   repeat' with_reducible first|apply ih0|apply ih1|apply Yg|apply Yh|apply Yi|refine Yj ?_ fun _=>?_
  ·intro y0 y1 y2 y3 y4 y5 y6;unfold aLz.l1
   repeat' with_reducible first|apply ih0|apply ih1|apply Yg|apply Yh|apply Yi|refine Yj ?_ fun _=>?_
theorem aLz.mono: ∀a0 k,LeO (aLz.f k a0) (aLz.f (k+1) a0):=by
 intro a0 k;obtain ⟨ih0,ih1⟩:=aLz.aXz k;unfold aLz.f
 repeat' with_reducible first|apply ih0|apply ih1|apply Yg|apply Yh|apply Yi|refine Yj ?_ fun _=>?_
theorem aLz.calls (k : Nat) (A0 : Option Addr) (c0 : Nat) (l0 : List (List Int)) (r1 : List Int) (r2 : Int) (w : World) (hr0 : Kd.C (Kd.slice 5 (Kd.int .u8)) w A0 l0.length l0) (hc0 : l0.length <= c0) (h : aLz.f k l0 = some (r1, r2)) :
  Calls Tryz.prog 82 #[.slice A0 l0.length c0] w fun e w'=> ∃v0_:Value,e= .returned (.tuple #[v0_, .int .i64 r2])/\Kd.R (Kd.int .u8) 5 w' w.heap.size (fun _=>True) v0_ r1/\Below w.heap.size w w':=by
 have HR0:=Za hr0;have HC0:=Za hc0;clear hr0 hc0;have HB:=Za (Zw w.heap.size w);have H:=h;clear h;unfold aLz.f at H;by_cases c2:0<(l0.length:Int)
 rotate_left
 ·rw [Yb c2] at H;exact Yf H (by simp)
 rw [Ya c2] at H;have c2b0:=Zd c2;have c2b1:decide (0<l0.length)=true:=Zd (by omega);clear c2;by_cases c3:0<=((rd_L1 l0 0).length:Int)
 rotate_left
 ·rw [Yb c3] at H;exact Yf H (by simp)
 rw [Ya c3] at H;have c3b0:=Zz c3;have c3b1:=Zd c3;clear c3;by_cases c4:(((rd_L1 l0 0).length:Int):Int).toNat<=281474976710656
 rotate_left
 ·rw [Yb c4] at H;exact Yf H (by simp)
 rw [Ya c4] at H;have c4b0:=Zz c4;have c4b1:=Zd c4;clear c4;obtain ⟨y102,hy102⟩: ∃y_:List Int,y_=(List.replicate (((rd_L1 l0 0).length:Int):Int).toNat 0):=⟨_,rfl⟩
 first|rw [Zl, <-hy102] at H|rw [<-hy102] at H
 (try dsimp only at H)
 have Ny102:=Za hy102;clear hy102;have H':=Za H;clear H;have p101:0<=(0:Int):=(by omega);have q101:0<(l0.length:Int):=Zc as_;obtain ⟨ad101,A101_0,c101_0,e101,hx101_0,hl101_0,hi101_0⟩:=at_L1 HR0.out 0 p101 q101;cases e101
 have qi101:(0<l0.length)=True:=Zz (by omega)
 (try rw [show ((0:Int)).toNat=0 from rfl] at hx101_0)
 (try rw [Addr.add_zero'] at hx101_0)
 have HR101_0:=Za hi101_0;have HC101_0:=Za hl101_0;clear hi101_0 hl101_0;replace p101:=Zz p101;replace q101:=Zz q101;go_enter Tryz.func82,Tryz.ntmps82
 go_wp2_with (first|((with_reducible refine aMz (N:=13) rfl ?_);refine Kd.R_make (Kd.int .u8) _ 5 rfl (N:=13) rfl 34 _ _ rfl ((rd_L1 l0 0).length:Int) rfl rfl Tryz.underlying34 (.int .u8 0) 1 info5 rfl (by decide) (by omega) 0 (ok:=fun _=>True) (okp:=fun _=>True) rfl (fun _ hk=>hk) trivial (Zc as_) (Zt (Nat.mul_le_mul_right _ (Zc as_:((rd_L1 l0 0).length:Int).toNat<=281474976710656)) (by omega)) (Zw _ _) (Zv _) ?_;intro v103 w5 ho6 hb hg_ hnew_;clear hg_ hnew_;(first|rw [<-Ny102.out] at ho6|(simp only [Int.reduceToNat] at ho6;rw [<-Ny102.out] at ho6));have n_:=Zb (Za (Kd.bAz ho6 (adz bl_))) (hs_ HB hb);clear HB;obtain ⟨HO104,HB⟩:=n_;clear hb ho6))
 go_loopg [16] k (fun kq v16 w'=> ∃(x4_1:List Int) (x16_1:Int),v16= .int .i64 x16_1/\Aside0 (aLz.l0 kq x4_1 l0 (l0.length:Int) x16_1=some (r1,r2))/\Aside0 (kq<=k)/\Aside0 (Kd.R (Kd.int .u8) 5 w' w.heap.size (fun _=>True) v103 x4_1)/\Aside0 (Below w.heap.size w w'))
 case atStart=>exact ⟨(y102),(0),sd_,H',⟨Zv _⟩,⟨xd_ HO104.out⟩,⟨bl_⟩⟩
 clear H';clear c2b0 c2b1 c3b0 c3b1 c4b0 c4b1 hx101_0 p101 q101;obtain ⟨x4_1,x16_1,rfl,HA,HK1,HO_4,HB⟩:=hrel;rcases gk with _|k1
 ·exact Yf HA.out (by simp [aLz.l0])
 have H:=HA.out;clear HA;simp only [aLz.l0] at H;by_cases c7:x16_1<(l0.length:Int)
 rotate_left
 ·rw [Yb c7] at H;have c7b0:=Ze c7;clear c7;simp only [Zx,Zy] at H;obtain ⟨rfl,rfl⟩:=H;go_wp2;go_ret2;exact ⟨_,er_,xd_ HO_4.out,bl_⟩
 rw [Ya c7] at H;have c7b0:=Zd c7;clear c7;by_cases c8:0<=x16_1
 rotate_left
 ·rw [Yb c8] at H;exact Yf H (by simp)
 rw [Ya c8] at H;have c8b0:=Zd c8;clear c8;by_cases c9:x16_1<(l0.length:Int)
 rotate_left
 ·rw [Yb c9] at H;exact Yf H (by simp)
 rw [Ya c9] at H;have c9b0:=Zd c9;clear c9;by_cases c10:((rd_L1 l0 x16_1).length:Int)=(x4_1.length:Int)
 rotate_left
 ·rw [Yb c10] at H;have c10b0:(((rd_L1 l0 x16_1).length:Int)==(x4_1.length:Int))=false:=Zq c10;have c10b1:(((rd_L1 l0 x16_1).length:Int) !=(x4_1.length:Int))=true:=Yd c10
  have c10b2:((rd_L1 l0 x16_1).length==x4_1.length)=false:=by first|simpa using c10|(simp at c10|-;omega)
  simp only [Zx,Zy] at H;obtain ⟨rfl,rfl⟩:=H;have p105:0<=(x16_1:Int):=Zc as_;have q105:x16_1<(l0.length:Int):=Zc as_;obtain ⟨ad105,A105_0,c105_0,e105,hx105_0,hl105_0,hi105_0⟩:=at_L1 HR0.out x16_1 p105 q105;obtain rfl:ad101=ad105:=(by injection e105);replace hx105_0:=(HB.out.cell (Zj w _ hx105_0)).trans hx105_0;have HR105_0:=Za hi105_0;have HC105_0:=Za hl105_0;clear hi105_0 hl105_0;replace p105:=Zz p105;replace q105:=Zz q105;obtain ⟨Ao19,co19,eo19⟩:=Kd.a3z HO_4.out;subst eo19;go_wp2;go_ret2;exact ⟨_,er_,nl_,bl_⟩
 rw [Ya c10] at H;have c10b0:(((rd_L1 l0 x16_1).length:Int)==(x4_1.length:Int))=true:=Ye c10;have c10b1:(((rd_L1 l0 x16_1).length:Int) !=(x4_1.length:Int))=false:=Yc c10
 have c10b2:((rd_L1 l0 x16_1).length==x4_1.length)=true:=by first|simpa using c10|(simp at c10|-;omega)
 clear c10;have H':=Za H;clear H;have p105:0<=(x16_1:Int):=Zc as_;have q105:x16_1<(l0.length:Int):=Zc as_;obtain ⟨ad105,A105_0,c105_0,e105,hx105_0,hl105_0,hi105_0⟩:=at_L1 HR0.out x16_1 p105 q105;obtain rfl:ad101=ad105:=(by injection e105);replace hx105_0:=(HB.out.cell (Zj w _ hx105_0)).trans hx105_0;have HR105_0:=Za hi105_0;have HC105_0:=Za hl105_0;clear hi105_0 hl105_0;replace p105:=Zz p105;replace q105:=Zz q105;obtain ⟨Ao11,co11,eo11⟩:=Kd.a3z HO_4.out;subst eo11;go_wp2
 go_loopg [27] k1 (fun kq v27 w'=> ∃(x4_2:List Int) (x27_2:Int),v27= .int .i64 x27_2/\Aside0 (aLz.l1 kq x4_2 l0 (l0.length:Int) x16_1 (rd_L1 l0 x16_1) ((rd_L1 l0 x16_1).length:Int) x27_2=some (r1,r2))/\Aside0 (kq<=k1)/\Aside0 (Kd.R (Kd.int .u8) 5 w' w.heap.size (fun _=>True) (.slice Ao11 x4_1.length co11) x4_2)/\Aside0 (Below w.heap.size w w'))
 case atStart=>exact ⟨(x4_1),(0),sd_,H',⟨Zv _⟩,⟨xd_ HO_4.out⟩,⟨bl_⟩⟩
 clear H';clear c7b0 c8b0 c9b0 c10b0 c10b1 c10b2 hx105_0 p105 q105;obtain ⟨x4_2,x27_2,rfl,HA,HK2,HO_4,HB⟩:=hrel;have hl4_2:=(Kd.aPz HO_4.out).1;rw [hl4_2] at HO_4
 (try simp only [hl4_2])
 rcases gk with _|k2
 ·exact Yf HA.out (by simp [aLz.l1])
 have H:=HA.out;clear HA;simp only [aLz.l1] at H;by_cases c12:x27_2<((rd_L1 l0 x16_1).length:Int)
 rotate_left
 ·rw [Yb c12] at H;have c12b0:=Ze c12;clear c12;have H':=Za H;clear H;go_wp2
  (try simp only [<-hl4_2])
  go_roundg k2
  case measure=>have:=HK1.out;have:=HK2.out;omega
  case rel=>exact ⟨(x4_2),(wrap64 (x16_1+1)),sd_,H',⟨by have:=HK1.out;have:=HK2.out;omega⟩,⟨by (try simp only [hl4_2]);(with_reducible repeat (first|apply Kd.c9z|apply Kd.cIz|apply Kd.b5z));exact HO_4.out⟩,⟨bl_⟩⟩
 rw [Ya c12] at H;have c12b0:=Zd c12;clear c12;by_cases c13:0<=x27_2
 rotate_left
 ·rw [Yb c13] at H;exact Yf H (by simp)
 rw [Ya c13] at H;have c13b0:=Zd c13;clear c13;by_cases c14:x27_2<((rd_L1 l0 x16_1).length:Int)
 rotate_left
 ·rw [Yb c14] at H;exact Yf H (by simp)
 rw [Ya c14] at H;have c14b0:=Zd c14;clear c14;by_cases c15:x27_2<(x4_2.length:Int)
 rotate_left
 ·rw [Yb c15] at H;exact Yf H (by simp)
 rw [Ya c15] at H;have c15b0:=Zd c15;clear c15;obtain ⟨y108,hy108⟩: ∃y_:List Int,y_=(x4_2.set (x27_2:Int).toNat (Go.bits .xor .u8 (rd x4_2 x27_2) (rd (rd_L1 l0 x16_1) x27_2))):=⟨_,rfl⟩
 first|rw [Zl, <-hy108] at H|rw [<-hy108] at H
 (try dsimp only at H)
 have Ny108:=Za hy108;clear hy108;have H':=Za H;clear H;have p106:0<=(x27_2:Int):=Zc as_;have q106:x27_2<((rd_L1 l0 x16_1).length:Int):=Zc as_;obtain ⟨_,e106,hx106_0⟩:=Kd.boz HR105_0.out x27_2 p106 q106;cases e106
 replace hx106_0:=(HB.out.cell (Zj w _ hx106_0)).trans hx106_0;replace p106:=Zz p106;replace q106:=Zz q106;have p107:0<=(x27_2:Int):=Zc as_;have q107:x27_2<(x4_2.length:Int):=Zc as_;obtain ⟨_,e107,hx107_0⟩:=Kd.boz (Kd.aPz HO_4.out).2.2 x27_2 p107 q107;cases e107
 replace p107:=Zz p107;replace q107:=Zz q107;have p16:0<=(x27_2:Int):=Zc as_;have q16:(x27_2:Int)<((x4_2.length:Int):Int):=Zc as_;obtain ⟨go16,co16,eo16,gb16,gl16,cl16,HG16⟩:=Kd.dHz HO_4.out (by omega)
 (first|cases eo16|(injection eo16 with ea_ en_ ec_;(first|subst ea_|(injection ea_ with ea_;subst ea_));subst ec_;clear en_))
 have GB16:=Za gb16;have GG16:=Za HG16;clear gb16 gl16 HG16
 (first|simp only [add_plain] at hx107_0|skip)
 obtain ⟨hx16_0,hf16_0⟩:=Kd.R_celln 0 HO_4.out (x27_2:Int) p16 q16;replace p16:=Zz p16;replace q16:=Zz q16;have HP17:=Kd.R_putg HO_4.out (x27_2:Int) (Go.bits .xor .u8 (rd x4_2 x27_2) (rd (rd_L1 l0 x16_1) x27_2))
 go_wp2_with (first|((with_reducible refine dkz (t:=5) (p:=38) rfl ?_);refine dZz (t:=5) (p:=38) (v:= ?vo_w18) (w1:=(wr.setCell ⟨go16,(x27_2:Int).toNat,none⟩ (.int .u8 (Go.bits .xor .u8 (rd x4_2 x27_2) (rd (rd_L1 l0 x16_1) x27_2))))) ?hg ?ho ?hn ?hr ?_;(case ho=>rfl);(case hg=>rfl);(case hn=>rfl);(case hr=>first|(go_simp;done)|(go_simp;rfl));intro w18 hw;have hg:wr.grownBy w18 (some go16):=(by rw [hw];exact HP17.2);have hp_:Kd.R (Kd.int .u8) 5 w18 w.heap.size (fun _=>True) (.slice (some ⟨go16,0,none⟩) x4_2.length co11) y108:=(by rw [hw,Ny108.out];exact HP17.1);clear HP17;have n_:=Zb (Za (hp_)) (Za ((by rw [hw];exact dEz (HB.out) GB16.out:Below w.heap.size w w18)));clear HO_4 HB;obtain ⟨HO_4,HB⟩:=n_;clear hg hw hp_))
 (try simp only [<-hl4_2])
 go_roundg k2
 case measure=>have:=HK1.out;have:=HK2.out;omega
 case rel=>exact ⟨(y108),(wrap64 (x27_2+1)),sd_,H',⟨by have:=HK1.out;have:=HK2.out;omega⟩,⟨by (try simp only [hl4_2]);(with_reducible repeat (first|apply Kd.c9z|apply Kd.cIz|apply Kd.b5z));exact HO_4.out⟩,⟨bl_⟩⟩
def bits_Len64.f (a0:Int):Option (Int):=if 0<=a0 then (if a0<=18446744073709551615 then (some (Lib.bitLen a0.toNat:Int)) else (none)) else (none)
theorem bits_Len64.calls (a0 : Int) (r : Int) (w : World) (h : bits_Len64.f a0 = some r) :
  Calls Tryz.prog 162 #[.int .u64 a0] w fun e w'=>e= .returned (.int .i64 r)/\Drawn0 w w':=by
 unfold bits_Len64.f at h;by_cases h0:0<=a0
 case neg=>rw [Yb h0] at h;cases h
 rw [Ya h0] at h;by_cases h1:a0<=18446744073709551615
 case neg=>rw [Yb h1] at h;cases h
 rw [Ya h1] at h;cases h
 refine (bits_Len64_told a0 w h0 h1).mono ?_;rintro e w' ⟨rfl,rfl⟩;exact ⟨rfl,Drawn0.refl _⟩
def cez.f (a0:Int):Option (Int):=(bits_Len64.f a0).bind fun t264=>(some (wrap64 (t264 - 1)))
theorem cez.calls (a0 : Int) (r : Int) (w : World) (h : cez.f a0 = some r) :
  Calls Tryz.prog 124 #[.int .u64 a0] w fun e w'=>e= .returned (.int .i64 r)/\Drawn0 w w':=by
 have H:=h;clear h;unfold cez.f at H;obtain ⟨t264,A2,H⟩:=ob_ H
 (try dsimp only at H)
 obtain rfl:=Zn H;go_enter Tryz.func124,Tryz.ntmps124
 go_wp2_with (first|((with_reducible refine aaz (f:=162) rfl ?_);refine gl_ (some 4) Tryz.func162 #[.int .u64 a0] ?_;(with_reducible refine (bits_Len64.calls a0 t264 _ A2.out).mono ?_);rintro e w' ⟨rfl,⟨nd,rfl⟩⟩;refine ⟨_,rfl,?_⟩))
 go_ret;exact ⟨sd_,dn_⟩
def byz.l0:Nat->Int->Int->Int->Int->Option (Int)
 |0,_,_,_,_=>none
 |k+1,x0,x1,x5,x6=>if x6>=x5 then (if 0<=x6 then (if (Go.bits .and .u64 (shr .u64 x0 x6) 1)=1 then (if 0<=(wrap64 (x6 - x5)) then (byz.l0 k (Go.bits .xor .u64 x0 (shl .u64 (IntKind.u64.wrap (x1)) (wrap64 (x6 - x5)))) x1 x5 (wrap64 (x6 - 1))) else (none)) else (byz.l0 k x0 x1 x5 (wrap64 (x6 - 1)))) else (none)) else (some ((x0) % 4294967296))
def byz.f (k:Nat) (a0:Int) (a1:Int):Option (Int):=if a1=0 then (some 0) else ((cez.f (IntKind.u64.wrap (a1))).bind fun t265=>((cez.f a0).bind fun t266=>(byz.l0 k a0 a1 t265 t266)))
theorem byz.calls (k : Nat) (a0 : Int) (a1 : Int) (r : Int) (w : World) (h : byz.f k a0 a1 = some r) :
  Calls Tryz.prog 164 #[.int .u64 a0, .int .u32 a1] w fun e w'=>e= .returned (.int .u32 r)/\Drawn0 w w':=by
 have H:=h;clear h;unfold byz.f at H;by_cases c3:a1=0
 ·rw [Ya c3] at H;have c3b0:(a1==0)=true:=Ye c3;have c3b1:(a1 !=0)=false:=Yc c3;clear c3;obtain rfl:=Zn H;go_enter Tryz.func164,Tryz.ntmps164;go_wp2;go_ret;exact ⟨sd_,dn_⟩
 ·rw [Yb c3] at H;have c3b0:(a1==0)=false:=Zq c3;have c3b1:(a1 !=0)=true:=Yd c3;obtain ⟨t265,A4,H⟩:=ob_ H
  (try dsimp only at H)
  obtain ⟨t266,A5,H⟩:=ob_ H
  (try dsimp only at H)
  have H':=Za H;clear H;go_enter Tryz.func164,Tryz.ntmps164
  go_wp2_with (first|((with_reducible refine aaz (f:=124) rfl ?_);refine gl_ (some 11) Tryz.func124 #[.int .u64 (IntKind.u64.wrap (a1))] ?_;(with_reducible refine (cez.calls (IntKind.u64.wrap (a1)) t265 _ A4.out).mono ?_);rintro e w' ⟨rfl,⟨nd,rfl⟩⟩;refine ⟨_,rfl,?_⟩)|((with_reducible refine aaz (f:=124) rfl ?_);refine gl_ (some 13) Tryz.func124 #[.int .u64 a0] ?_;(with_reducible refine (cez.calls a0 t266 _ A5.out).mono ?_);rintro e w' ⟨rfl,⟨nd,rfl⟩⟩;refine ⟨_,rfl,?_⟩))
  go_loopg [0,6] k (fun kq v0 v6 w'=> ∃(x0_1:Int) (x6_1:Int),v0= .int .u64 x0_1/\v6= .int .i64 x6_1/\Aside0 (byz.l0 kq x0_1 a1 t265 x6_1=some r)/\Aside0 (kq<=k)/\Drawn0 w w')
  case atStart=>exact ⟨(a0),(t266),sd_,sd_,H',⟨Zv _⟩,dn_⟩
  clear H';clear c3 c3b0 c3b1;obtain ⟨x0_1,x6_1,rfl,rfl,HA,HK1,⟨m1,rfl⟩⟩:=hrel;rcases gk with _|k1
  ·exact Yf HA.out (by simp [byz.l0])
  have H:=HA.out;clear HA;simp only [byz.l0] at H;by_cases c6:x6_1>=t265
  rotate_left
  ·rw [Yb c6] at H;have c6b0:decide (t265<=x6_1)=false:=Ze c6;clear c6;obtain rfl:=Zn H;go_wp2;go_ret;exact ⟨sd_,dn_⟩
  rw [Ya c6] at H;have c6b0:decide (t265<=x6_1)=true:=Zd c6;clear c6;by_cases c7:0<=x6_1
  rotate_left
  ·rw [Yb c7] at H;exact Yf H (by simp)
  rw [Ya c7] at H;have c7b0:=Zz c7;have c7b1:=Zd c7;clear c7;obtain ⟨ji8,hji8⟩: ∃j_:Int,(shr .u64 x0_1 x6_1)=j_:=⟨_,rfl⟩
  replace H:(if (Go.bits .and .u64 (ji8) 1)=1 then (if 0<=(wrap64 (x6_1 - t265)) then (byz.l0 k1 (Go.bits .xor .u64 x0_1 (shl .u64 (IntKind.u64.wrap (a1)) (wrap64 (x6_1 - t265)))) a1 t265 (wrap64 (x6_1 - 1))) else (none)) else (byz.l0 k1 x0_1 a1 t265 (wrap64 (x6_1 - 1))))=some r:=by first|(rw [hji8] at H;exact H)|(simp only [hji8] at H|-;exact H)
  have hji8_:(x0_1 / 2^min x6_1.toNat 64)=ji8:=hji8;have hji8z:x6_1<=64->(x0_1 / 2^x6_1.toNat)=ji8:=shr_small hji8;by_cases c9:(Go.bits .and .u64 (ji8) 1)=1
  rotate_left
  ·rw [Yb c9] at H;have c9b0:((Go.bits .and .u64 (ji8) 1)==1)=false:=Zq c9;have c9b1:((Go.bits .and .u64 (ji8) 1) !=1)=true:=Yd c9;have H':=Za H;clear H;go_wp2
   (first|go_roundg k1|(subst hji12;go_roundg k1))
   case measure=>have:=HK1.out;omega
   case rel=>exact ⟨(x0_1),(wrap64 (x6_1 - 1)),sd_,sd_,H',⟨by have:=HK1.out;omega⟩,dn_⟩
  rw [Ya c9] at H;have c9b0:((Go.bits .and .u64 (ji8) 1)==1)=true:=Ye c9;have c9b1:((Go.bits .and .u64 (ji8) 1) !=1)=false:=Yc c9;clear c9;obtain ⟨ji10,hji10⟩: ∃j_:Int,(wrap64 (x6_1 - t265))=j_:=⟨_,rfl⟩
  replace H:(if 0<=(ji10) then (byz.l0 k1 (Go.bits .xor .u64 x0_1 (shl .u64 (IntKind.u64.wrap (a1)) (ji10))) a1 t265 (wrap64 (x6_1 - 1))) else (none))=some r:=by first|(rw [hji10] at H;exact H)|(simp only [hji10] at H|-;exact H)
  have hji10w:(IntKind.i64.wrap (x6_1 - t265))=ji10:=(i64_w _).trans hji10;by_cases c11:0<=(ji10)
  rotate_left
  ·rw [Yb c11] at H;exact Yf H (by simp)
  rw [Ya c11] at H;have c11b0:=Zz c11;have c11b1:=Zd c11;clear c11;obtain ⟨ji12,hji12⟩: ∃j_:Int,(shl .u64 (IntKind.u64.wrap (a1)) (ji10))=j_:=⟨_,rfl⟩
  replace H:(byz.l0 k1 (Go.bits .xor .u64 x0_1 (ji12)) a1 t265 (wrap64 (x6_1 - 1)))=some r:=by first|(rw [hji12] at H;exact H)|(simp only [hji12] at H|-;exact H)
  have hji12_:(IntKind.u64.wrap ((IntKind.u64.wrap (a1))*2^min (ji10).toNat 64))=ji12:=hji12;have hji12z:(ji10)<=64->(IntKind.u64.wrap ((IntKind.u64.wrap (a1))*2^(ji10).toNat))=ji12:=shl_small hji12;have H':=Za H;clear H;go_wp2
  (first|go_roundg k1|(subst hji12;go_roundg k1))
  case measure=>have:=HK1.out;omega
  case rel=>exact ⟨(Go.bits .xor .u64 x0_1 (ji12)),(wrap64 (x6_1 - 1)),(by first|rfl|(simp;done)|(simp only [<-hji12] <;>(first|rfl|simp))|(simp [*];done)),sd_,H',⟨by have:=HK1.out;omega⟩,dn_⟩
def bits_Len32.f (a0:Int):Option (Int):=if 0<=a0 then (if a0<=4294967295 then (some (Lib.bitLen a0.toNat:Int)) else (none)) else (none)
theorem bits_Len32.calls (a0 : Int) (r : Int) (w : World) (h : bits_Len32.f a0 = some r) :
  Calls Tryz.prog 191 #[.int .u32 a0] w fun e w'=>e= .returned (.int .i64 r)/\Drawn0 w w':=by
 unfold bits_Len32.f at h;by_cases h0:0<=a0
 case neg=>rw [Yb h0] at h;cases h
 rw [Ya h0] at h;by_cases h1:a0<=4294967295
 case neg=>rw [Yb h1] at h;cases h
 rw [Ya h1] at h;cases h
 refine (bits_Len32_told a0 w h0 h1).mono ?_;rintro e w' ⟨rfl,rfl⟩;exact ⟨rfl,Drawn0.refl _⟩
def caz.at_ (a b:Int):Nat->Int
 |0=>0
 |i+1=>if Go.bits .and .u32 (shr .u32 b (i:Int)) 1=1 then Go.bits .xor .u64 (caz.at_ a b i) (shl .u64 (IntKind.u64.wrap a) (i:Int)) else caz.at_ a b i
def caz.f (a0:Int) (a1:Int):Option (Int):=(bits_Len32.f a1).bind fun n=>if 0<=n then (if n<=32 then (some (caz.at_ a0 a1 n.toNat)) else (none)) else (none)
theorem poly_Mul1.calls (b i : Int) (g : Nat) (W : World) (h1 : W.heap[g]? = some (.cells #[.int .u32 b] 77 (0, 0))) (hi : 0 <= i) :
  Calls Tryz.prog 190 #[.int .i64 i, .pointer (some ⟨g,0,none⟩)] W fun e w'=>e= .returned (.bool (Go.bits .and .u32 (shr .u32 b i) 1==1))/\Drawn0 W w':=by
 have hc1:=(abz h1 0).trans rfl;obtain ⟨z,hz⟩: ∃z:Int,shr .u32 b i=z:=⟨_,rfl⟩;have hz_:(b / 2^min i.toNat 32)=z:=hz;have hzz:i<=32->(b / 2^i.toNat)=z:=shr_small hz;have hi1:=Zz hi;have hi2:decide (0<=i)=true:=Zd hi;rw [hz];go_enter Tryz.func190,Tryz.ntmps190;go_wp2;go_ret;exact ⟨rfl,Drawn0.refl _⟩
theorem caz.calls (a0 : Int) (a1 : Int) (r : Int) (w : World) (h : caz.f a0 a1 = some r) :
  Calls Tryz.prog 177 #[.int .u32 a0, .int .u32 a1] w fun e w'=>e= .returned (.int .u64 r)/\Below w.heap.size w w':=by
 unfold caz.f at h
 cases hn:bits_Len32.f a1 with
 |none=>rw [hn] at h;cases h
 |some n=>
  rw [hn] at h;simp only [Zl] at h;by_cases h0:0<=n
  case neg=>rw [Yb h0] at h;cases h
  rw [Ya h0] at h;by_cases h32:n<=32
  case neg=>rw [Yb h32] at h;cases h
  rw [Ya h32] at h;cases h
  have HN:=Za hn;clear hn;go_enter Tryz.func177,Tryz.ntmps177
  go_wp2_with (first|(go_at_call 191;refine (bits_Len32.calls a1 n _ HN.out).mono ?_;rintro e w9 ⟨rfl,m9,rfl⟩))
  go_loopw [5,11] (fun p i wr=> ∃k:Nat,(k:Int)<=n/\p= .int .u64 (caz.at_ a0 a1 k)/\i= .int .i64 k/\Aside0 (Below w.heap.size w wr)/\Aside0 (wr.heap[w.heap.size]?=some (.cells #[.int .u32 a1] 77 (0,0))))
   (fun _ i _=>40 - (intOf i).toNat)
  case atStart=>exact ⟨0,h0,rfl,rfl,⟨by repeat (first|exact Zw _ _|apply a0z|apply anz)⟩,⟨by simpa using heap_alloc_new w _⟩⟩
  obtain ⟨k,hk,rfl,rfl,HB,BK⟩:=hrel;by_cases hlt:(k:Int)<n
  ·obtain ⟨z,hz⟩: ∃z:Int,shl .u64 (IntKind.u64.wrap a0) (k:Int)=z:=⟨_,rfl⟩;have hz_:(IntKind.u64.wrap (IntKind.u64.wrap a0*2^min (k:Int).toNat 64))=z:=hz;have hzz:(k:Int)<=64->(IntKind.u64.wrap (IntKind.u64.wrap a0*2^(k:Int).toNat))=z:=shl_small hz
   have hs:caz.at_ a0 a1 (k+1)=if (Go.bits .and .u32 (shr .u32 a1 (k:Int)) 1==1)=true then Go.bits .xor .u64 (caz.at_ a0 a1 k) z else caz.at_ a0 a1 k:=by
    simp only [caz.at_,beq_iff_eq,hz]
   generalize hq:(Go.bits .and .u32 (shr .u32 a1 (k:Int)) 1==1)=q at hs;have HQ:=Za hq;have HS:=Za hs;clear hq hs
   cases q with
   |true=>
    go_wp2_with (first|(go_at_call 190;refine (poly_Mul1.calls a1 (k:Int) w.heap.size _ BK.out (by omega)).mono ?_;rintro e w9 ⟨rfl,m9,rfl⟩;rw [HQ.out]))
    go_roundw
    case rel=>exact ⟨k+1,by omega,by rw [HS.out,Ya (by trivial), <-hzz (by omega)];simp,by go_num,⟨by repeat (first|exact HB.out|apply a0z)⟩,⟨BK.out⟩⟩
    case measure=>simp [intOf];omega
   |false=>
    go_wp2_with (first|(go_at_call 190;refine (poly_Mul1.calls a1 (k:Int) w.heap.size _ BK.out (by omega)).mono ?_;rintro e w9 ⟨rfl,m9,rfl⟩;rw [HQ.out]))
    go_roundw
    case rel=>exact ⟨k+1,by omega,by rw [HS.out];rfl,by go_num,⟨by repeat (first|exact HB.out|apply a0z)⟩,⟨BK.out⟩⟩
    case measure=>simp [intOf];omega
  ·have:n=(k:Int):=by omega
   subst this;go_wp2;go_ret;exact ⟨by simp,HB.out⟩
def bXz.f (k:Nat) (a0:Int) (a1:Int) (a2:Int):Option (Int):=(caz.f a0 a1).bind fun t267=>((byz.f k t267 a2).bind fun t268=>(some t268))
theorem bXz.calls (k : Nat) (a0 : Int) (a1 : Int) (a2 : Int) (r : Int) (w : World) (h : bXz.f k a0 a1 a2 = some r) :
  Calls Tryz.prog 152 #[.int .u32 a0, .int .u32 a1, .int .u32 a2] w fun e w'=>e= .returned (.int .u32 r)/\Below w.heap.size w w':=by
 have HB:=Za (Zw w.heap.size w);have H:=h;clear h;unfold bXz.f at H;obtain ⟨t267,A4,H⟩:=ob_ H
 (try dsimp only at H)
 obtain ⟨t268,A5,H⟩:=ob_ H
 (try dsimp only at H)
 obtain rfl:=Zn H;go_enter Tryz.func152,Tryz.ntmps152
 go_wp2_with (first|((with_reducible refine aaz (f:=177) rfl ?_);refine gl_ (some 9) Tryz.func177 #[.int .u32 a0, .int .u32 a1] ?_;(with_reducible refine (caz.calls a0 a1 t267 _ A4.out).mono ?_);rintro e w6 ⟨rfl,hb⟩;refine ⟨_,rfl,?_⟩;have n0_:=hs_ HB hb;clear HB;have HB:=n0_;clear n0_;(try clear hb))|((with_reducible refine aaz (f:=164) rfl ?_);refine gl_ (some 11) Tryz.func164 #[.int .u64 t267, .int .u32 a2] ?_;(with_reducible refine (byz.calls k t267 a2 t268 _ A5.out).mono ?_);rintro e w' ⟨rfl,⟨nd,rfl⟩⟩;refine ⟨_,rfl,?_⟩))
 go_ret;exact ⟨er_,bl_⟩
def bMz.l0:Nat->Int->Int->Int->Int->Option (Int)
 |0,_,_,_,_=>none
 |k+1,x1,x5,x8,x9=>if x9<x8 then ((bXz.f k x5 x5 x1).bind fun t270=>(bMz.l0 k x1 t270 x8 (wrap64 (x9+1)))) else (some x5)
def bMz.f (k:Nat) (a0:Int) (a1:Int):Option (Int):=(byz.f k 2 a1).bind fun t269=>(bMz.l0 k a1 t269 a0 0)
theorem bMz.calls (k : Nat) (a0 : Int) (a1 : Int) (r : Int) (w : World) (h : bMz.f k a0 a1 = some r) :
  Calls Tryz.prog 186 #[.int .i64 a0, .int .u32 a1] w fun e w'=>e= .returned (.int .u32 r)/\Below w.heap.size w w':=by
 have HB:=Za (Zw w.heap.size w);have H:=h;clear h;unfold bMz.f at H;obtain ⟨t269,A3,H⟩:=ob_ H
 (try dsimp only at H)
 have H':=Za H;clear H;go_enter Tryz.func186,Tryz.ntmps186
 go_wp2_with (first|((with_reducible refine aaz (f:=164) rfl ?_);refine gl_ (some 7) Tryz.func164 #[.int .u64 2, .int .u32 a1] ?_;(with_reducible refine (byz.calls k 2 a1 t269 _ A3.out).mono ?_);rintro e w' ⟨rfl,⟨nd,rfl⟩⟩;refine ⟨_,rfl,?_⟩))
 go_loopg [5,9] k (fun kq v5 v9 w'=> ∃(x5_1:Int) (x9_1:Int),v5= .int .u32 x5_1/\v9= .int .i64 x9_1/\Aside0 (bMz.l0 kq a1 x5_1 a0 x9_1=some r)/\Aside0 (kq<=k)/\Aside0 (Below w.heap.size w w'))
 case atStart=>exact ⟨(t269),(0),sd_,sd_,H',⟨Zv _⟩,⟨bl_⟩⟩
 clear H';obtain ⟨x5_1,x9_1,rfl,rfl,HA,HK1,HB⟩:=hrel;rcases gk with _|k1
 ·exact Yf HA.out (by simp [bMz.l0])
 have H:=HA.out;clear HA;simp only [bMz.l0] at H;by_cases c4:x9_1<a0
 ·rw [Ya c4] at H;have c4b0:=Zd c4;clear c4;obtain ⟨t270,A5,H⟩:=ob_ H
  (try dsimp only at H)
  have H':=Za H;clear H
  go_wp2_with (first|((with_reducible refine aaz (f:=152) rfl ?_);refine gl_ (some 14) Tryz.func152 #[.int .u32 x5_1, .int .u32 x5_1, .int .u32 a1] ?_;(with_reducible refine (bXz.calls k1 x5_1 x5_1 a1 t270 _ A5.out).mono ?_);rintro e w6 ⟨rfl,hb⟩;refine ⟨_,rfl,?_⟩;have n0_:=hs_ HB hb;clear HB;have HB:=n0_;clear n0_;(try clear hb)))
  go_roundg k1
  case measure=>have:=HK1.out;omega
  case rel=>exact ⟨(t270),(wrap64 (x9_1+1)),sd_,sd_,H',⟨by have:=HK1.out;omega⟩,⟨bl_⟩⟩
 ·rw [Yb c4] at H;have c4b0:=Ze c4;clear c4;obtain rfl:=Zn H;go_wp2;go_ret;exact ⟨er_,bl_⟩
def cNz.l0:Nat->Int->Int->Option (Int)
 |0,_,_=>none
 |k+1,x0,x1=>if x1=0 then (some x0) else ((byz.f k (IntKind.u64.wrap (x0)) x1).bind fun t271=>(cNz.l0 k x1 t271))
def cNz.f (k:Nat) (a0:Int) (a1:Int):Option (Int):=cNz.l0 k a0 a1
theorem cNz.calls (k : Nat) (a0 : Int) (a1 : Int) (r : Int) (w : World) (h : cNz.f k a0 a1 = some r) :
  Calls Tryz.prog 187 #[.int .u32 a0, .int .u32 a1] w fun e w'=>e= .returned (.int .u32 r)/\Drawn0 w w':=by
 have H:=h;clear h;unfold cNz.f at H;have H':=Za H;clear H;go_enter Tryz.func187,Tryz.ntmps187;go_wp2
 go_loopg [0,1] k (fun kq v0 v1 w'=> ∃(x0_1:Int) (x1_1:Int),v0= .int .u32 x0_1/\v1= .int .u32 x1_1/\Aside0 (cNz.l0 kq x0_1 x1_1=some r)/\Aside0 (kq<=k)/\Drawn0 w w')
 case atStart=>exact ⟨(a0),(a1),sd_,sd_,H',⟨Zv _⟩,dn_⟩
 clear H';obtain ⟨x0_1,x1_1,rfl,rfl,HA,HK1,⟨m1,rfl⟩⟩:=hrel;rcases gk with _|k1
 ·exact Yf HA.out (by simp [cNz.l0])
 have H:=HA.out;clear HA;simp only [cNz.l0] at H;by_cases c3:x1_1=0
 ·rw [Ya c3] at H;have c3b0:(x1_1==0)=true:=Ye c3;have c3b1:(x1_1 !=0)=false:=Yc c3;clear c3;obtain rfl:=Zn H;go_wp2;go_ret;exact ⟨sd_,dn_⟩
 ·rw [Yb c3] at H;have c3b0:(x1_1==0)=false:=Zq c3;have c3b1:(x1_1 !=0)=true:=Yd c3;obtain ⟨t271,A4,H⟩:=ob_ H
  (try dsimp only at H)
  have H':=Za H;clear H
  go_wp2_with (first|((with_reducible refine aaz (f:=164) rfl ?_);refine gl_ (some 11) Tryz.func164 #[.int .u64 (IntKind.u64.wrap (x0_1)), .int .u32 x1_1] ?_;(with_reducible refine (byz.calls k1 (IntKind.u64.wrap (x0_1)) x1_1 t271 _ A4.out).mono ?_);rintro e w' ⟨rfl,⟨nd,rfl⟩⟩;refine ⟨_,rfl,?_⟩))
  go_roundg k1
  case measure=>have:=HK1.out;omega
  case rel=>exact ⟨(x1_1),(t271),sd_,sd_,H',⟨by have:=HK1.out;omega⟩,dn_⟩
mutual
def bkz.j0:Nat->Int->Int->Bool->Option (Bool)
 |0,_,_,_=>none
 |k+1,x0,x3,x21=>if x21=true then (some false) else (bkz.l0 k x0 x3 1)
def bkz.l0:Nat->Int->Int->Int->Option (Bool)
 |0,_,_,_=>none
 |k+1,x0,x3,x4=>if x4<=(wrap64 (Int.tdiv x3 2)) then ((bMz.f k x4 x0).bind fun t275=>((cNz.f k x0 (Go.bits .xor .u32 t275 2)).bind fun t276=>(if t276=1 then (bkz.l0 k x0 x3 (wrap64 (x4+1))) else (some false)))) else (some true)
end
def bkz.f (k:Nat) (a0:Int):Option (Bool):=(cez.f (IntKind.u64.wrap (a0))).bind fun t272=>(if t272<1 then (bkz.j0 k a0 t272 true) else (if t272>16 then (bkz.j0 k a0 t272 true) else ((bMz.f k t272 a0).bind fun t273=>((byz.f k 2 a0).bind fun t274=>(bkz.j0 k a0 t272 (t273 !=t274))))))
theorem bkz.calls (k : Nat) (a0 : Int) (r : Bool) (w : World) (h : bkz.f k a0 = some r) :
  Calls Tryz.prog 163 #[.int .u32 a0] w fun e w'=>e= .returned (.bool r)/\Below w.heap.size w w':=by
 have HB:=Za (Zw w.heap.size w);have H:=h;clear h;unfold bkz.f at H;obtain ⟨t272,A2,H⟩:=ob_ H
 (try dsimp only at H)
 have HC3:=Za H;clear H;go_enter Tryz.func163,Tryz.ntmps163
 go_upto_region 2 with (first|((with_reducible refine aaz (f:=124) rfl ?_);refine gl_ (some 7) Tryz.func124 #[.int .u64 (IntKind.u64.wrap (a0))] ?_;(with_reducible refine (cez.calls (IntKind.u64.wrap (a0)) t272 _ A2.out).mono ?_);rintro e w' ⟨rfl,⟨nd,rfl⟩⟩;refine ⟨_,rfl,?_⟩))
 (try simp only [Act.put,Zg,Zh,Zi])
 go_cut [21] (fun v21 wc=> ∃(kq:Nat) (x21_2:Bool),v21= .bool x21_2/\Aside0 (bkz.j0 kq a0 t272 x21_2=some r)/\Aside0 (kq<=k)/\Aside0 (Below w.heap.size w wc))
 case first=>
  have H:=HC3.out;clear HC3;by_cases c4:t272<1
  ·rw [Ya c4] at H;have c4b0:=Zd c4;clear c4
   (first|rw [c4b0] |(simp only [i64_w,i32_w];rw [c4b0])|skip)
   have H':=Za H;clear H;go_wp2
   go_meet
   case rel=>exact ⟨_,(true),sd_,H',⟨by first|omega|exact Zv _⟩,⟨bl_⟩⟩
  ·rw [Yb c4] at H;have c4b0:=Ze c4;clear c4
   (first|rw [c4b0] |(simp only [i64_w,i32_w];rw [c4b0])|skip)
   by_cases c5:t272>16
   ·rw [Ya c5] at H;have c5b0:decide (16<t272)=true:=Zd c5;clear c5;have H':=Za H;clear H;go_wp2
    go_meet
    case rel=>exact ⟨_,(true),sd_,H',⟨by first|omega|exact Zv _⟩,⟨bl_⟩⟩
   ·rw [Yb c5] at H;have c5b0:decide (16<t272)=false:=Ze c5;clear c5;obtain ⟨t273,A6,H⟩:=ob_ H
    (try dsimp only at H)
    obtain ⟨t274,A7,H⟩:=ob_ H
    (try dsimp only at H)
    have H':=Za H;clear H
    go_wp2_with (first|(go_at_call 186;(with_reducible refine (bMz.calls k t272 a0 t273 _ A6.out).mono ?_);rintro e w8 ⟨rfl,hb⟩;have n0_:=hs_ HB hb;clear HB;have HB:=n0_;clear n0_;(try clear hb))|(go_at_call 164;(with_reducible refine (byz.calls k 2 a0 t274 _ A7.out).mono ?_);rintro e w' ⟨rfl,⟨nd,rfl⟩⟩))
    go_meet
    case rel=>exact ⟨_,((t273 !=t274)),sd_,H',⟨by first|omega|exact Zv _⟩,⟨bl_⟩⟩
 case rest=>
  clear HC3;obtain ⟨kq,x21_2,rfl,HA,HJ2,HB⟩:=hcut;rcases kq with _|kj2
  ·exact Yf HA.out (by simp [bkz.j0])
  have H:=HA.out;clear HA;simp only [bkz.j0] at H;by_cases c9:x21_2=true
  ·subst c9;rw [Ya rfl] at H;obtain rfl:=Zn H;go_wp2;go_ret;exact ⟨er_,bl_⟩
  ·replace c9:=Zr c9;subst c9;rw [Yb (show¬(false=true) by decide)] at H;have H':=Za H;clear H;go_wp2
   go_loopg [4] kj2 (fun kq v4 w'=> ∃(x4_2:Int),v4= .int .i64 x4_2/\Aside0 (bkz.l0 kq a0 t272 x4_2=some r)/\Aside0 (kq<=kj2)/\Aside0 (Below w.heap.size w w'))
   case atStart=>exact ⟨(1),sd_,H',⟨Zv _⟩,⟨bl_⟩⟩
   clear H';obtain ⟨x4_2,rfl,HA,HK2,HB⟩:=hrel;rcases gk with _|k2
   ·exact Yf HA.out (by simp [bkz.l0])
   have H:=HA.out;clear HA;simp only [bkz.l0] at H;by_cases c10:x4_2<=(wrap64 (Int.tdiv t272 2))
   rotate_left
   ·rw [Yb c10] at H;have c10b0:=Ze c10;clear c10;obtain rfl:=Zn H;go_wp2;go_ret;exact ⟨er_,bl_⟩
   rw [Ya c10] at H;have c10b0:=Zd c10;clear c10;obtain ⟨t275,A11,H⟩:=ob_ H
   (try dsimp only at H)
   obtain ⟨t276,A12,H⟩:=ob_ H
   (try dsimp only at H)
   by_cases c13:t276=1
   ·rw [Ya c13] at H;have c13b0:(t276==1)=true:=Ye c13;have c13b1:(t276 !=1)=false:=Yc c13;clear c13;have H':=Za H;clear H
    go_wp2_with (first|((with_reducible refine aaz (f:=186) rfl ?_);refine gl_ (some 31) Tryz.func186 #[.int .i64 x4_2, .int .u32 a0] ?_;(with_reducible refine (bMz.calls k2 x4_2 a0 t275 _ A11.out).mono ?_);rintro e w14 ⟨rfl,hb⟩;refine ⟨_,rfl,?_⟩;have n0_:=hs_ HB hb;clear HB;have HB:=n0_;clear n0_;(try clear hb))|((with_reducible refine aaz (f:=187) rfl ?_);refine gl_ (some 33) Tryz.func187 #[.int .u32 a0, .int .u32 (Go.bits .xor .u32 t275 2)] ?_;(with_reducible refine (cNz.calls k2 a0 (Go.bits .xor .u32 t275 2) t276 _ A12.out).mono ?_);rintro e w' ⟨rfl,⟨nd,rfl⟩⟩;refine ⟨_,rfl,?_⟩))
    go_roundg k2
    case measure=>have:=HJ2.out;have:=HK2.out;omega
    case rel=>exact ⟨(wrap64 (x4_2+1)),sd_,H',⟨by have:=HJ2.out;have:=HK2.out;omega⟩,⟨bl_⟩⟩
   ·rw [Yb c13] at H;have c13b0:(t276==1)=false:=Zq c13;have c13b1:(t276 !=1)=true:=Yd c13;obtain rfl:=Zn H
    go_wp2_with (first|((with_reducible refine aaz (f:=186) rfl ?_);refine gl_ (some 31) Tryz.func186 #[.int .i64 x4_2, .int .u32 a0] ?_;(with_reducible refine (bMz.calls k2 x4_2 a0 t275 _ A11.out).mono ?_);rintro e w15 ⟨rfl,hb⟩;refine ⟨_,rfl,?_⟩;have n0_:=hs_ HB hb;clear HB;have HB:=n0_;clear n0_;(try clear hb))|((with_reducible refine aaz (f:=187) rfl ?_);refine gl_ (some 33) Tryz.func187 #[.int .u32 a0, .int .u32 (Go.bits .xor .u32 t275 2)] ?_;(with_reducible refine (cNz.calls k2 a0 (Go.bits .xor .u32 t275 2) t276 _ A12.out).mono ?_);rintro e w' ⟨rfl,⟨nd,rfl⟩⟩;refine ⟨_,rfl,?_⟩))
    go_ret;exact ⟨er_,bl_⟩
end Go.Proofs.Xc
end
