-- Joined texts of this work (wip/tools/bundle.py).
import Derived.Test.YtpdakdcmahlghaaGreatProg
import Derived.Below
import Derived.Deep.Draws
import Derived.Deep.AppendLies
import Derived.Maps.AppendAt
import Derived.OwnWalk
import Derived.Laws.BytesArg
import Derived.Laws.MakeOwn
import Derived.Laws.OwnMore
import Derived.Deep.OwnRows
import Derived.Tactics
import Derived.Lib.ConvBytes
import Derived.Laws.Slices
import Derived.WalkKit
import Derived.KernelRfl
import Derived.RowKit3
import Derived.Deep.LoopGhost
import Derived.Deep.QuietTactic
import Derived.BigQuiet
import Derived.WideLaws
import Derived.Deep.DeepCutAuto
import Derived.Deep.CutBlock
import Derived.Deep.RegionHeld3
import Derived.Laws.Rows
import Derived.Lib.AppendStr
import Derived.ArgAppend
import Derived.Laws.IdiomCopy
import Derived.OrdersHeld
import Derived.Laws.BitsLemmas
import Derived.RowKit
import Derived.RegionTactic
import Derived.Test.YtpdakdcmahlghaaGreatBCodecEncodes1
import Derived.Test.YtpdakdcmahlghaaGreatBCodecEncodes3
set_option maxHeartbeats 8000000
set_option maxRecDepth 100000
set_option linter.unusedVariables false
set_option linter.unusedSimpArgs false
section
namespace Go.Proofs.Xc
open Go.RowKit Go.Proofs.Pw Go.Proofs.Pl Go.Proofs.Pm
attribute [local go_sem] baz bbz bmz bnz a2z a3z bcz bdz
def errW:Option Int->Value
 |none=> .nilIface
 |some c=> .iface 0 (.int .i64 c)
theorem ccz:errW none= .nilIface:=rfl
theorem cdz (c:Int):errW (some c)= .iface 0 (.int .i64 c):=rfl
theorem info3:(Tryz.prog.info? 3).map (fun i=>(i.zero,i.size,i.bytes))=some (some (.int .i64 0),1,8):=by kernel_rfl
theorem info5:(Tryz.prog.info? 5).map (fun i=>(i.zero,i.size,i.bytes))=some (some (.int .u8 0),1,1):=by kernel_rfl
theorem info34:(Tryz.prog.info? 34).map (fun i=>(i.zero,i.size,i.bytes))=some (some (.slice none 0 0),1,24):=by kernel_rfl
theorem info57:(Tryz.prog.info? 57).map (fun i=>(i.zero,i.size,i.bytes))=some (some (.slice none 0 0),1,24):=by kernel_rfl
def rd_L1 (xs:List (List Int)) (i:Int):(List Int):=xs.getD i.toNat ([] :List Int)
theorem at_L1 {w:World} {A:Option Addr} {n:Nat} {xs:List (List Int)} (h:Kd.C (Kd.slice 5 (Kd.int .u8)) w A n xs) (i:Int) (h0:0<=i) (h1:i<n): ∃ad A0 c0,A=some ad/\w.cell? (ad.add i.toNat)=some (.slice A0 (rd_L1 xs i).length c0)/\(rd_L1 xs i).length<=c0/\(Kd.int .u8).C w A0 (rd_L1 xs i).length (rd_L1 xs i):=by
 obtain ⟨ad,c,e,_,hK,hc0⟩:=Kd.C_get h ([] :List Int) i h0 h1;have hc: ∀j u,c[j]?=some u->w.cell? (ad.add (i.toNat*1+j))=some u:=hc0;obtain ⟨A0,c0,rfl,l0,g0⟩:=hK;exact ⟨ad,A0,c0,e,by have hq:=hc 0 _ rfl;rwa [Nat.mul_one,Nat.add_zero] at hq,l0,g0⟩
def rd_L4 (xs:List (List Int)) (i:Int):(List Int):=xs.getD i.toNat ([] :List Int)
theorem at_L4 {w:World} {A:Option Addr} {n:Nat} {xs:List (List Int)} (h:Kd.C (Kd.slice 3 (Kd.int .i64)) w A n xs) (i:Int) (h0:0<=i) (h1:i<n): ∃ad A0 c0,A=some ad/\w.cell? (ad.add i.toNat)=some (.slice A0 (rd_L4 xs i).length c0)/\(rd_L4 xs i).length<=c0/\(Kd.int .i64).C w A0 (rd_L4 xs i).length (rd_L4 xs i):=by
 obtain ⟨ad,c,e,_,hK,hc0⟩:=Kd.C_get h ([] :List Int) i h0 h1;have hc: ∀j u,c[j]?=some u->w.cell? (ad.add (i.toNat*1+j))=some u:=hc0;obtain ⟨A0,c0,rfl,l0,g0⟩:=hK;exact ⟨ad,A0,c0,e,by have hq:=hc 0 _ rfl;rwa [Nat.mul_one,Nat.add_zero] at hq,l0,g0⟩
def bL:Nat->Nat->List Bool
 |0,_=> []
 |n+1,m=>(m % 2==1)::bL n (m / 2)
def bA (n m:Nat):Array Bool:=(bL n m).toArray
section
variable {P : Program} {md : Region.Mode} {ops : Array Oper} {Q : Exit -> Act -> World -> Prop} {S : World -> Prop} {ds : List Nat} {oi : Oper} {v : Value} {fuel n m0 : Nat} {a a' : Act} {w : World} {T : Bool × List (List Nat × List Nat)} {B : List Nat}
theorem pu_ (i d m : Nat)
  (h:wpAnyLast P md ops Q S ds fuel (bA n m) a' w)
  (hi:ops[i]?=some oi:=by exact rfl) (hN:oi.dst=some d:=by exact rfl)
  (hc:anyB md ops (bA n m0) (bA n m) i=true:=by kernel_rfl)
  (hQ: ∀c v a w,Q (.panic c) (Act.put a (some d) v) w->Q (.panic c) a w:=by exact fun _ _ _ _ h=>h)
  (hy:Yields P ops oi v a:=by (refine Or.inl ⟨by rfl,?_⟩;intro w';go_simp;with_reducible rfl))
  (ha:a.put (some d) v=a':=by (simp only [Act.put,List.setIfInBounds_toArray,List.set_cons_zero,List.set_cons_succ,i64_w,i32_w];rfl)):
  wpAnyLast P md ops Q S ds (fuel+1) (bA n m0) a w:=pure_ _ hi hN hc (fun c a w=>by rw [hN];exact hQ c _ a w) hy ha h
theorem pv_ (i d m : Nat) (HT : Aside0 (rtab md ops = T))
  (h:wpAnyLast P md ops Q S ds fuel (bA n m) a' w)
  (hi:ops[i]?=some oi:=by exact rfl) (hN:oi.dst=some d:=by exact rfl)
  (hc:anyT T (bA n m0).toList (bA n m).toList i=true:=by kernel_rfl)
  (hQ: ∀c v a w,Q (.panic c) (Act.put a (some d) v) w->Q (.panic c) a w:=by exact fun _ _ _ _ h=>h)
  (hy:Yields P ops oi v a:=by (refine Or.inl ⟨by rfl,?_⟩;intro w';go_simp;with_reducible rfl))
  (ha:a.put (some d) v=a':=by (simp only [Act.put,List.setIfInBounds_toArray,List.set_cons_zero,List.set_cons_succ,i64_w,i32_w];rfl)):
  wpAnyLast P md ops Q S ds (fuel+1) (bA n m0) a w:=pure_ _ hi hN (any_of HT.out hc) (fun c a w=>by rw [hN];exact hQ c _ a w) hy ha h
theorem pn_ (i d m : Nat) (HT : Aside0 (rtab md ops = T))
  (h:wpAnyLast P md ops Q S ds fuel (bA n m) a' w)
  (hi:ops[i]?=some oi:=by exact rfl) (hN:oi.dst=some d:=by exact rfl)
  (hc:anyT T (bA n m0).toList (bA n m).toList i=true:=by kernel_rfl)
  (hQ: ∀c a w,Q (.panic c) (Act.put a (some d) undef) w->Q (.panic c) a w:=by exact fun _ _ _ h=>h)
  (hy:Yields P ops oi undef a:=by exact Or.inr ⟨by rfl,rfl⟩)
  (ha:a.put (some d) undef=a':=by (simp only [Act.put,List.setIfInBounds_toArray,List.set_cons_zero,List.set_cons_succ,i64_w,i32_w];rfl)):
  wpAnyLast P md ops Q S ds (fuel+1) (bA n m0) a w:=pure_ _ hi hN (any_of HT.out hc) (fun c a w=>by rw [hN];exact hQ c a w) hy ha h
theorem tk_ (i d m : Nat) (hS : S w)
  (h:wpAnyLast P md ops Q S ds fuel (bA n m) a' w)
  (hi:ops[i]?=some oi:=by exact rfl) (hN:oi.dst=some d:=by exact rfl)
  (hc:takeB md ops ds (bA n m0) (bA n m) i=true:=by kernel_rfl)
  (hQ: ∀c v a w,Q (.panic c) (Act.put a (some d) v) w->Q (.panic c) a w:=by exact fun _ _ _ _ h=>h)
  (hy:YieldsIf P ops S oi v a:=by (refine Or.inl ⟨by rfl,?_⟩;intro w' hs;(try dsimp only at hs);(repeat (rcases hs with ⟨s0,hs⟩));go_simp;with_reducible rfl))
  (ha:a.put (some d) v=a':=by (simp only [Act.put,List.setIfInBounds_toArray,List.set_cons_zero,List.set_cons_succ,i64_w,i32_w];rfl)):
  wpAnyLast P md ops Q S ds (fuel+1) (bA n m0) a w:=take_ _ hi hN hc (fun c a w=>by rw [hN];exact hQ c _ a w) hy hS ha h
theorem tw_ (i d m : Nat) (HT : Aside0 (rtab md ops = T)) (HW : Aside0 (waitsOk T.2 B = true)) (hS : S w)
  (h:wpAnyLast P md ops Q S ds fuel (bA n m) a' w)
  (hi:ops[i]?=some oi:=by exact rfl) (hN:oi.dst=some d:=by exact rfl)
  (hc:takeW T B ds (bA n m0).toList (bA n m).toList i=true:=by kernel_rfl)
  (hQ: ∀c v a w,Q (.panic c) (Act.put a (some d) v) w->Q (.panic c) a w:=by exact fun _ _ _ _ h=>h)
  (hy:YieldsIf P ops S oi v a:=by (refine Or.inl ⟨by rfl,?_⟩;intro w' hs;(try dsimp only at hs);(repeat (rcases hs with ⟨s0,hs⟩));go_simp;with_reducible rfl))
  (ha:a.put (some d) v=a':=by (simp only [Act.put,List.setIfInBounds_toArray,List.set_cons_zero,List.set_cons_succ,i64_w,i32_w];rfl)):
  wpAnyLast P md ops Q S ds (fuel+1) (bA n m0) a w:=take_ _ hi hN (take_ofW HT.out HW.out hc) (fun c a w=>by rw [hN];exact hQ c _ a w) hy hS ha h
end
theorem kr_ {p:Prop} (h:p:=by kernel_rfl):p:=h
theorem bl_ {p:Prop} (h:p:=by repeat (first|(with_reducible first|exact HB.out|apply aoz|apply aZz|apply cnz|refine dxz ?_ (Aside0.out (by assumption)))|exact HB.out)):p:=h
theorem bk_ {p:Prop} (h:p:=by (with_reducible repeat (first|refine c4z ?_ _|refine cQz ?_|refine bAz ?_ _));exact Aside0.out (by assumption)):p:=h
theorem bp3_0 {w:World} {g:Nat} {t:TypeId} {x0 x1 x2 u:Value} (h:w.heap[g]?=some (.cells #[x0,x1,x2] t (0,0))):(w.setCell ⟨g,0,none⟩ u).heap[g]?=some (.cells #[u,x1,x2] t (0,0)):=cCz h 0 u rfl
theorem bp3_1 {w:World} {g:Nat} {t:TypeId} {x0 x1 x2 u:Value} (h:w.heap[g]?=some (.cells #[x0,x1,x2] t (0,0))):(w.setCell ⟨g,1,none⟩ u).heap[g]?=some (.cells #[x0,u,x2] t (0,0)):=cCz h 1 u rfl
theorem bp3_2 {w:World} {g:Nat} {t:TypeId} {x0 x1 x2 u:Value} (h:w.heap[g]?=some (.cells #[x0,x1,x2] t (0,0))):(w.setCell ⟨g,2,none⟩ u).heap[g]?=some (.cells #[x0,x1,u] t (0,0)):=cCz h 2 u rfl
theorem bp5_0 {w:World} {g:Nat} {t:TypeId} {x0 x1 x2 x3 x4 u:Value} (h:w.heap[g]?=some (.cells #[x0,x1,x2,x3,x4] t (0,0))):(w.setCell ⟨g,0,none⟩ u).heap[g]?=some (.cells #[u,x1,x2,x3,x4] t (0,0)):=cCz h 0 u rfl
theorem bp5_1 {w:World} {g:Nat} {t:TypeId} {x0 x1 x2 x3 x4 u:Value} (h:w.heap[g]?=some (.cells #[x0,x1,x2,x3,x4] t (0,0))):(w.setCell ⟨g,1,none⟩ u).heap[g]?=some (.cells #[x0,u,x2,x3,x4] t (0,0)):=cCz h 1 u rfl
theorem bp5_2 {w:World} {g:Nat} {t:TypeId} {x0 x1 x2 x3 x4 u:Value} (h:w.heap[g]?=some (.cells #[x0,x1,x2,x3,x4] t (0,0))):(w.setCell ⟨g,2,none⟩ u).heap[g]?=some (.cells #[x0,x1,u,x3,x4] t (0,0)):=cCz h 2 u rfl
theorem bp5_3 {w:World} {g:Nat} {t:TypeId} {x0 x1 x2 x3 x4 u:Value} (h:w.heap[g]?=some (.cells #[x0,x1,x2,x3,x4] t (0,0))):(w.setCell ⟨g,3,none⟩ u).heap[g]?=some (.cells #[x0,x1,x2,u,x4] t (0,0)):=cCz h 3 u rfl
theorem bp5_4 {w:World} {g:Nat} {t:TypeId} {x0 x1 x2 x3 x4 u:Value} (h:w.heap[g]?=some (.cells #[x0,x1,x2,x3,x4] t (0,0))):(w.setCell ⟨g,4,none⟩ u).heap[g]?=some (.cells #[x0,x1,x2,x3,u] t (0,0)):=cCz h 4 u rfl
theorem kb_ {p:Prop} (h:p:=by (with_reducible repeat (first|refine c4z ?_ _|refine cQz ?_|refine bAz ?_ _|refine byz ?_ (Aside0.out (by assumption)) _|apply bp3_0|apply bp3_1|apply bp3_2|apply bp5_0|apply bp5_1|apply bp5_2|apply bp5_3|apply bp5_4));with_reducible exact Aside0.out (by assumption)):p:=h
theorem ar_ {p:Prop} (h:p:=by (try simp only [List.map_toArray,List.map_cons,List.map_nil]);first|done|rfl|(simp only [List.length_drop,List.length_take];rfl)):p:=h
theorem am_ {p:Prop} (h:p:=by simp only [List.map_toArray,List.map_cons,List.map_nil];rfl):p:=h
theorem as_ {p:Prop} (h:p:=by first|(with_reducible assumption)|assumption):p:=h
theorem er_ {p:Prop} (h:p:=by first|rfl|(simp [ccz,cdz] <;>rfl)|(simp [*,ccz,cdz] <;>rfl)):p:=h
theorem sd_ {p:Prop} (h:p:=by first|rfl|(simp;done)|(simp [*];done)):p:=h
theorem dn_ {p:Prop} (h:p:=by repeat (first|exact Drawn0.refl _|apply Drawn0.step)):p:=h
theorem nl_ {p:Prop} (h:p:=by first|exact Kd.S_nil _ _ _ _ _|exact Kd.N_nil _ _ _ _ _|exact Kd.V_nil _ _ _ _ _|exact Kd.Q_nil _ _ _ _ _|exact Kd.R_nil _ _ _ _ _):p:=h
theorem bc3_ {w:World} {g:Nat} {t:TypeId} {x0 x1 x2:Value} (h:w.heap[g]?=some (.cells #[x0,x1,x2] t (0,0))):w.cell? ⟨g,0,none⟩=some x0/\w.frozen? ⟨g,0,none⟩=false/\w.cell? ⟨g,1,none⟩=some x1/\w.frozen? ⟨g,1,none⟩=false/\w.cell? ⟨g,2,none⟩=some x2/\w.frozen? ⟨g,2,none⟩=false:=⟨(aez h 0).trans rfl,boz h 0,(aez h 1).trans rfl,boz h 1,(aez h 2).trans rfl,boz h 2⟩
theorem bc5_ {w:World} {g:Nat} {t:TypeId} {x0 x1 x2 x3 x4:Value} (h:w.heap[g]?=some (.cells #[x0,x1,x2,x3,x4] t (0,0))):w.cell? ⟨g,0,none⟩=some x0/\w.frozen? ⟨g,0,none⟩=false/\w.cell? ⟨g,1,none⟩=some x1/\w.frozen? ⟨g,1,none⟩=false/\w.cell? ⟨g,2,none⟩=some x2/\w.frozen? ⟨g,2,none⟩=false/\w.cell? ⟨g,3,none⟩=some x3/\w.frozen? ⟨g,3,none⟩=false/\w.cell? ⟨g,4,none⟩=some x4/\w.frozen? ⟨g,4,none⟩=false:=⟨(aez h 0).trans rfl,boz h 0,(aez h 1).trans rfl,boz h 1,(aez h 2).trans rfl,boz h 2,(aez h 3).trans rfl,boz h 3,(aez h 4).trans rfl,boz h 4⟩
theorem bb_ {W w w1 : World} {g : Nat} {o : Obj} (h : Aside0 (W.heap[g]? = some o)) (hb : Below w.heap.size w w1)
  (h2:W.heap[g]?=some o->w.heap[g]?=some o:=by intro hx;(with_reducible repeat (first|refine c4z ?_ _|refine cQz ?_|refine bAz ?_ _));exact hx):Aside0 (w1.heap[g]?=some o):=⟨aLz (h2 h.out) hb⟩
theorem hs_ {a b w w1 : World} (_HB : Aside0 (Below a.heap.size a b)) (hb : Below w.heap.size w w1)
  (h:Below a.heap.size a w:=by repeat (first|(with_reducible first|exact HB.out|apply aoz|apply aZz|apply cnz|refine dxz ?_ (Aside0.out (by assumption)))|exact HB.out)):Aside0 (Below a.heap.size a w1):=⟨dCz h hb⟩
theorem ag_ {n:Nat} {a b:World} (_HB:Aside0 (Below n a b)) (g:Nat) (h:n<=g:=by rw [hg];exact (acz bl_)):Aside0 (n<=g):=⟨h⟩
theorem n1_ {W:World} {g:Nat} {o:Obj} (_h:Aside0 (W.heap[g]?=some o)) (g':Nat) (h:g≠g':=by rw [hg];exact Nat.ne_of_lt (a4z bk_)):Aside0 (g≠g'):=⟨h⟩
theorem n2_ {W:World} {g:Nat} {o:Obj} (_h:Aside0 (W.heap[g]?=some o)) (g':Nat) (h:g'≠g:=by rw [hg];exact Nat.ne_of_gt (a4z bk_)):Aside0 (g'≠g):=⟨h⟩
theorem ob_ {α β:Type} {o:Option α} {f:α->Option β} {b:β} (h:o.bind f=some b): ∃a,Aside0 (o=some a)/\f a=some b:=by
 obtain ⟨a,h1,h2⟩:=Option.bind_eq_some_iff.1 h;exact ⟨a,⟨h1⟩,h2⟩
theorem xd_ {p q:Prop} (x:q) (h:q->p:=by intro hx;(with_reducible repeat (first|apply Kd.N_alloc|apply Kd.N_drewN|apply Kd.N_drew|apply Kd.dez|apply Kd.dfz|apply Kd.dkz|apply Kd.R_alloc|apply Kd.dbz|apply Kd.cJz|apply Kd.eez|apply Kd.S_drewN|apply Kd.S_drew|refine Kd.b2z ?_ _|refine Kd.bzz ?_ _|refine Kd.ckz ?_));exact hx):p:=h x
section
variable {P : Program} {ops_ : Array Oper} {Q : Exit -> Act -> World -> Prop} {rest : List Oper} {o : Oper} {a : Act} {W : World}
theorem bx_ (N : Tmp) (cs : Array Value) (t : TypeId)
  (h: ∀g,g=W.heap.size-> ∀w1,w1.heap[g]?=some (.cells cs t (0,0))->Below W.heap.size W w1->wpList P ops_ Q rest (a.put o.dst (.pointer (some ⟨g,0,none⟩))) w1)
  (hd:o.dst=some N:=by rfl) (hgd:o.guard=none:=by rfl)
  (hrun:(execOp a.eval o).run P W= .ok (.value (.pointer (some ⟨W.heap.size,0,none⟩))) (W.alloc (.cells cs t (0,0))):=by first|(go_simp;done)|(go_simp;rfl)):wpList P ops_ Q (o::rest) a W:=
 b4z hgd hd hrun h
theorem gl_ (N : Option Tmp) {f : FuncId} {fn : Func} (hf : P.funcs[f]? = some fn) (args : Array Value) {xs : Array Operand} {ts : Array TypeId}
  (h:Calls P f args W fun e w'=> ∃v,e= .returned v/\wpList P ops_ Q rest (a.put N v) w')
  (hd:o.dst=N:=by rfl) (hg:o.guard=none:=by rfl) (hname:(fn.name== "runtime.NumGoroutine")=false:=by kernel_rfl) (hb:fn.body.isSome=true:=by rfl)
  (hop:o.op= .call { callee:= .value (.func f),args:=xs,argTypes:=ts } :=by rfl)
  (hargs:xs.map a.eval=args:=by (try simp only [List.map_toArray,List.map_cons,List.map_nil]);first|done|rfl|(simp only [List.length_drop,List.length_take];rfl)):wpList P ops_ Q (o::rest) a W:=
 goesL_ N hd hg hf hname hb args hop hargs h
end
section
variable {α : Type} {d : Kd α} {e base : Nat} {ok ok' : Nat -> Prop} {w w1 : World} {v : Value} {xs : List α}
theorem nm_ (h:Aside0 (d.N e w base ok v xs)) (hok: ∀k,ok k->ok' k:=by intro _ hk;first|exact hk|exact trivial|((try simp only [and_assoc] at hk);(repeat (have h_:=hk.1;replace hk:=hk.2));((repeat' apply And.intro)<;>first|assumption|exact trivial|(simp [Value.ownBlock];done)))) (hw:d.N e w base ok' v xs->d.N e w1 base ok' v xs:=by intro hx;(with_reducible repeat (first|apply Kd.N_alloc|apply Kd.N_drewN|apply Kd.N_drew));exact hx):d.N e w1 base ok' v xs:=hw (Kd.bRz h.out hok)
theorem vm_ (h:Aside0 (d.V e w base ok v xs)) (hok: ∀k,ok k->ok' k:=by intro _ hk;first|exact hk|exact trivial|((try simp only [and_assoc] at hk);(repeat (have h_:=hk.1;replace hk:=hk.2));((repeat' apply And.intro)<;>first|assumption|exact trivial|(simp [Value.ownBlock];done)))) (hw:d.V e w base ok' v xs->d.V e w1 base ok' v xs:=by intro hx;(with_reducible repeat (first|apply Kd.dez|apply Kd.dfz|apply Kd.dkz));exact hx):d.V e w1 base ok' v xs:=hw (Kd.djz h.out hok)
theorem rm_ (h:Aside0 (d.R e w base ok v xs)) (hok: ∀k,ok k->ok' k:=by intro _ hk;first|exact hk|exact trivial|((try simp only [and_assoc] at hk);(repeat (have h_:=hk.1;replace hk:=hk.2));((repeat' apply And.intro)<;>first|assumption|exact trivial|(simp [Value.ownBlock];done)))) (hw:d.R e w base ok' v xs->d.R e w1 base ok' v xs:=by intro hx;(with_reducible repeat (first|apply Kd.R_alloc|apply Kd.dbz|apply Kd.cJz));exact hx):d.R e w1 base ok' v xs:=hw (Kd.aQz h.out hok)
theorem sm_ (h:Aside0 (d.S e w base ok v xs)) (hok: ∀k,ok k->ok' k:=by intro _ hk;first|exact hk|exact trivial|((try simp only [and_assoc] at hk);(repeat (have h_:=hk.1;replace hk:=hk.2));((repeat' apply And.intro)<;>first|assumption|exact trivial|(simp [Value.ownBlock];done)))) (hw:d.S e w base ok' v xs->d.S e w1 base ok' v xs:=by intro hx;(with_reducible repeat (first|apply Kd.eez|apply Kd.S_drewN|apply Kd.S_drew));exact hx):d.S e w1 base ok' v xs:=hw (Kd.cGz h.out hok)
end
theorem Za {p:Prop} (h:p):Aside0 p:=⟨h⟩
theorem Zb {a b:Prop} (h:a) (k:b):a/\b:=⟨h,k⟩
theorem Zc {p:Prop} [Decidable p] (h:decide p=true):p:=of_decide_eq_true h
theorem Zd {p:Prop} [Decidable p] (h:p):decide p=true:=decide_eq_true h
theorem Ze {p:Prop} [Decidable p] (h: ¬p):decide p=false:=decide_eq_false h
theorem Zf {α:Type} {l:List α} {i:Nat} (h:i<l.length):l[i]?=some l[i] :=List.getElem?_eq_getElem h
theorem Zg {α:Type} (l:List α) (i:Nat) (a:α):l.toArray.setIfInBounds i a=(l.set i a).toArray:=List.setIfInBounds_toArray l i a
theorem Zh {α:Type} {x:α} {xs:List α} {a:α} :(x::xs).set 0 a=a::xs:=rfl
theorem Zi {α:Type} {x:α} {xs:List α} {n:Nat} {a:α} :(x::xs).set (n+1) a=x::xs.set n a:=rfl
theorem Zj (w:World) (a:Addr) {u:Value} (h:w.cell? a=some u):a.block<w.heap.size:=World.block_lt_of_cell? w a h
theorem Zk {α:Type} {l:List α} {i:Nat} {a:α} (h:l[i]?=some a): ∃h:i<l.length,l[i] =a:=List.getElem?_eq_some_iff.1 h
theorem Zl {α β:Type} (a:α) (f:α->Option β):(some a).bind f=f a:=rfl
theorem Zm {α:Type} {l:List α} {i:Nat} {a:α} :l.getD i a=l[i]?.getD a:=List.getD_eq_getElem?_getD
theorem Zn {α:Type} {a b:α} (h:some a=some b):a=b:=Option.some.inj h
theorem Zo {α:Type} {l:List α} {i:Nat} {a:α} (h:l[i]?=some a):a∈l:=List.mem_of_getElem? h
theorem Zp {n m k:Nat} (h:n<m) (g:m<=k):n<k:=Nat.lt_of_lt_of_le h g
theorem Zq {α:Type} [BEq α] [LawfulBEq α] {a b:α} (h:a≠b):(a==b)=false:=beq_eq_false_iff_ne.mpr h
theorem Zr {b:Bool} (h:b≠true):b=false:=Bool.eq_false_iff.mpr h
theorem Zt {n m k:Nat} (h:n<=m) (g:m<=k):n<=k:=Nat.le_trans h g
theorem Zu (n:Nat):(n:Int).toNat=n:=Int.toNat_natCast n
theorem Zv (n:Nat):n<=n:=Nat.le_refl n
theorem Zw (n:Nat) (w:World):Below n w w:=Below.refl n w
theorem Zx {α:Type} (a b:α):(some a=some b)=(a=b):=Option.some.injEq a b
theorem Zy {α β:Type} (a:α) (b:β) (c:α) (d:β):((a,b)=(c,d))=(a=c/\b=d):=Prod.mk.injEq a b c d
theorem Zz {p:Prop} (h:p):p=True:=eq_true h
theorem Ya {c:Prop} {h:Decidable c} (hc:c) {α:Sort _} {t e:α} :ite c t e=t:=if_pos hc
theorem Yb {c:Prop} {h:Decidable c} (hc: ¬c) {α:Sort _} {t e:α} :ite c t e=e:=if_neg hc
theorem Yc {α:Type} [BEq α] [LawfulBEq α] {a b:α} (h:a=b):(a !=b)=false:=bne_eq_false_iff_eq.mpr h
theorem Yd {α:Type} [BEq α] [LawfulBEq α] {a b:α} (h:a≠b):(a !=b)=true:=bne_iff_ne.mpr h
theorem Ye {α:Type} [BEq α] [LawfulBEq α] {a b:α} (h:a=b):(a==b)=true:=beq_iff_eq.mpr h
theorem Yf {a b:Prop} (h:a) (k: ¬a):b:=absurd h k
end Go.Proofs.Xc
end
section
namespace Go.Proofs.Xc
open Go.RowKit Go.Proofs.Pw Go.Proofs.Pl Go.Proofs.Pm
attribute [local go_sem] baz bbz bmz bnz a2z a3z bcz bdz
mutual
def aKz.l0:Nat->List Int->List (List Int)->Int->Int->Option (List Int×Int)
 |0,_,_,_,_=>none
 |k+1,x4,x14,x15,x16=>if x16<x15 then (if 0<=x16 then (if x16<(x14.length:Int) then (if ((rd_L1 x14 x16).length:Int)=(x4.length:Int) then (aKz.l1 k x4 x14 x15 x16 (rd_L1 x14 x16) ((rd_L1 x14 x16).length:Int) 0) else (some (([] :List Int),1))) else (none)) else (none)) else (some (x4,0))
def aKz.l1:Nat->List Int->List (List Int)->Int->Int->List Int->Int->Int->Option (List Int×Int)
 |0,_,_,_,_,_,_,_=>none
 |k+1,x4,x14,x15,x16,x25,x26,x27=>if x27<x26 then (if 0<=x27 then (if x27<(x25.length:Int) then (if x27<(x4.length:Int) then (aKz.l1 k (x4.set (x27:Int).toNat (Go.bits .xor .u8 (rd x4 x27) (rd x25 x27))) x14 x15 x16 x25 x26 (wrap64 (x27+1))) else (none)) else (none)) else (none)) else (aKz.l0 k x4 x14 x15 (wrap64 (x16+1)))
end
def aKz.f (k:Nat) (l0:List (List Int)):Option (List Int×Int):=if 0<(l0.length:Int) then (if 0<=((rd_L1 l0 0).length:Int) then (if (((rd_L1 l0 0).length:Int):Int).toNat<=281474976710656 then (aKz.l0 k (List.replicate (((rd_L1 l0 0).length:Int):Int).toNat 0) l0 (l0.length:Int) 0) else (none)) else (none)) else (none)
theorem aKz.aWz: ∀k,(∀y0 y1 y2 y3,LeO (aKz.l0 k y0 y1 y2 y3) (aKz.l0 (k+1) y0 y1 y2 y3))/\(∀y0 y1 y2 y3 y4 y5 y6,LeO (aKz.l1 k y0 y1 y2 y3 y4 y5 y6) (aKz.l1 (k+1) y0 y1 y2 y3 y4 y5 y6))
 |0=>⟨fun _ _ _ _ r h=>by simp [aKz.l0] at h,fun _ _ _ _ _ _ _ r h=>by simp [aKz.l1] at h⟩
 |k+1=>by
  obtain ⟨ih0,ih1⟩:=aKz.aWz k;refine ⟨?_,?_⟩
  ·intro y0 y1 y2 y3;unfold aKz.l0
   repeat' with_reducible first|apply ih0|apply ih1|apply LeO.refl|apply LeO.none|apply LeO.ite|refine LeO.bind ?_ fun _=>?_
  ·intro y0 y1 y2 y3 y4 y5 y6;unfold aKz.l1
   repeat' with_reducible first|apply ih0|apply ih1|apply LeO.refl|apply LeO.none|apply LeO.ite|refine LeO.bind ?_ fun _=>?_
theorem aKz.mono: ∀a0 k,LeO (aKz.f k a0) (aKz.f (k+1) a0):=by
 intro a0 k;obtain ⟨ih0,ih1⟩:=aKz.aWz k;unfold aKz.f
 repeat' with_reducible first|apply ih0|apply ih1|apply LeO.refl|apply LeO.none|apply LeO.ite|refine LeO.bind ?_ fun _=>?_
theorem aKz.calls (k : Nat) (A0 : Option Addr) (c0 : Nat) (l0 : List (List Int)) (r1 : List Int) (r2 : Int) (w : World) (hr0 : Kd.C (Kd.slice 5 (Kd.int .u8)) w A0 l0.length l0) (hc0 : l0.length <= c0) (h : aKz.f k l0 = some (r1, r2)) :
  Calls Tryz.prog 82 #[.slice A0 l0.length c0] w fun e w'=> ∃v0_:Value,e= .returned (.tuple #[v0_, .int .i64 r2])/\Kd.R (Kd.int .u8) 5 w' w.heap.size (fun _=>True) v0_ r1/\Below w.heap.size w w':=by
 have HR0:=Za hr0;have HC0:=Za hc0;clear hr0 hc0;have HB:=Za (Zw w.heap.size w);have H:=h;clear h;unfold aKz.f at H;by_cases c2:0<(l0.length:Int)
 rotate_left
 ·rw [Yb c2] at H;exact Yf H (by simp)
 rw [Ya c2] at H;have c2b0:=Zd c2;have c2b1:decide (0<l0.length)=true:=Zd (by omega);clear c2;by_cases c3:0<=((rd_L1 l0 0).length:Int)
 rotate_left
 ·rw [Yb c3] at H;exact Yf H (by simp)
 rw [Ya c3] at H;have c3b0:=Zz c3;have c3b1:=Zd c3;clear c3;by_cases c4:(((rd_L1 l0 0).length:Int):Int).toNat<=281474976710656
 rotate_left
 ·rw [Yb c4] at H;exact Yf H (by simp)
 rw [Ya c4] at H;have c4b0:=Zz c4;have c4b1:=Zd c4;clear c4;obtain ⟨y102,hy102⟩: ∃y_:List Int,y_=(List.replicate (((rd_L1 l0 0).length:Int):Int).toNat 0):=⟨_,rfl⟩
 first|rw [Zl, <-hy102] at H|rw [<-hy102] at H
 (try dsimp only at H)
 have Ny102:=Za hy102;clear hy102;have H':=Za H;clear H;have p101:0<=(0:Int):=(by omega);have q101:0<(l0.length:Int):=Zc as_;obtain ⟨ad101,A101_0,c101_0,e101,hx101_0,hl101_0,hi101_0⟩:=at_L1 HR0.out 0 p101 q101;cases e101
 have qi101:(0<l0.length)=True:=Zz (by omega)
 (try rw [show ((0:Int)).toNat=0 from rfl] at hx101_0)
 (try rw [Addr.add_zero'] at hx101_0)
 have HR101_0:=Za hi101_0;have HC101_0:=Za hl101_0;clear hi101_0 hl101_0;replace p101:=Zz p101;replace q101:=Zz q101;go_enter Tryz.func82,Tryz.ntmps82
 go_wp2_with (first|((with_reducible refine aUz (N:=13) rfl ?_);refine Kd.R_make (Kd.int .u8) _ 5 rfl (N:=13) rfl 34 _ _ rfl ((rd_L1 l0 0).length:Int) rfl rfl Tryz.underlying34 (.int .u8 0) 1 info5 rfl (by decide) (by omega) 0 (ok:=fun _=>True) (okp:=fun _=>True) rfl (fun _ hk=>hk) trivial (Zc as_) (Zt (Nat.mul_le_mul_right _ (Zc as_:((rd_L1 l0 0).length:Int).toNat<=281474976710656)) (by omega)) (Zw _ _) (Zv _) ?_;intro v103 w5 ho6 hb hg_ hnew_;clear hg_ hnew_;(first|rw [<-Ny102.out] at ho6|(simp only [Int.reduceToNat] at ho6;rw [<-Ny102.out] at ho6));have n_:=Zb (Za (Kd.bGz ho6 (acz bl_))) (hs_ HB hb);clear HB;obtain ⟨HO104,HB⟩:=n_;clear hb ho6))
 go_loopg [16] k (fun kq v16 w'=> ∃(x4_1:List Int) (x16_1:Int),v16= .int .i64 x16_1/\Aside0 (aKz.l0 kq x4_1 l0 (l0.length:Int) x16_1=some (r1,r2))/\Aside0 (kq<=k)/\Aside0 (Kd.R (Kd.int .u8) 5 w' w.heap.size (fun _=>True) v103 x4_1)/\Aside0 (Below w.heap.size w w'))
 case atStart=>exact ⟨(y102),(0),sd_,H',⟨Zv _⟩,⟨xd_ HO104.out⟩,⟨bl_⟩⟩
 clear H'
 try clear c1
 try clear p1
 try clear q1
 try clear hx1
 try clear qi1
 try clear c2
 try clear c2b0
 try clear c2b1
 try clear p2
 try clear c3
 try clear c3b0
 try clear c3b1
 try clear c4
 try clear c4b0
 try clear c4b1
 try clear hx101_0
 try clear p101
 try clear q101
 obtain ⟨x4_1,x16_1,rfl,HA,HK1,HO_4,HB⟩:=hrel;rcases gk with _|k1
 ·exact Yf HA.out (by simp [aKz.l0])
 have H:=HA.out;clear HA;simp only [aKz.l0] at H;by_cases c7:x16_1<(l0.length:Int)
 rotate_left
 ·rw [Yb c7] at H;have c7b0:=Ze c7;clear c7;simp only [Zx,Zy] at H;obtain ⟨rfl,rfl⟩:=H;go_wp2;go_ret2;exact ⟨_,er_,xd_ HO_4.out,bl_⟩
 rw [Ya c7] at H;have c7b0:=Zd c7;clear c7;by_cases c8:0<=x16_1
 rotate_left
 ·rw [Yb c8] at H;exact Yf H (by simp)
 rw [Ya c8] at H;have c8b0:=Zd c8;clear c8;by_cases c9:x16_1<(l0.length:Int)
 rotate_left
 ·rw [Yb c9] at H;exact Yf H (by simp)
 rw [Ya c9] at H;have c9b0:=Zd c9;clear c9;by_cases c10:((rd_L1 l0 x16_1).length:Int)=(x4_1.length:Int)
 rotate_left
 ·rw [Yb c10] at H;have c10b0:(((rd_L1 l0 x16_1).length:Int)==(x4_1.length:Int))=false:=Zq c10;have c10b1:(((rd_L1 l0 x16_1).length:Int) !=(x4_1.length:Int))=true:=Yd c10
  have c10b2:((rd_L1 l0 x16_1).length==x4_1.length)=false:=by first|simpa using c10|(simp at c10|-;omega)
  simp only [Zx,Zy] at H;obtain ⟨rfl,rfl⟩:=H;have p105:0<=(x16_1:Int):=Zc as_;have q105:x16_1<(l0.length:Int):=Zc as_;obtain ⟨ad105,A105_0,c105_0,e105,hx105_0,hl105_0,hi105_0⟩:=at_L1 HR0.out x16_1 p105 q105;obtain rfl:ad101=ad105:=(by injection e105);replace hx105_0:=(HB.out.cell (Zj w _ hx105_0)).trans hx105_0;have HR105_0:=Za hi105_0;have HC105_0:=Za hl105_0;clear hi105_0 hl105_0;replace p105:=Zz p105;replace q105:=Zz q105;obtain ⟨Ao19,co19,eo19⟩:=Kd.a7z HO_4.out;subst eo19;go_wp2;go_ret2;exact ⟨_,er_,nl_,bl_⟩
 rw [Ya c10] at H;have c10b0:(((rd_L1 l0 x16_1).length:Int)==(x4_1.length:Int))=true:=Ye c10;have c10b1:(((rd_L1 l0 x16_1).length:Int) !=(x4_1.length:Int))=false:=Yc c10
 have c10b2:((rd_L1 l0 x16_1).length==x4_1.length)=true:=by first|simpa using c10|(simp at c10|-;omega)
 clear c10;have H':=Za H;clear H;have p105:0<=(x16_1:Int):=Zc as_;have q105:x16_1<(l0.length:Int):=Zc as_;obtain ⟨ad105,A105_0,c105_0,e105,hx105_0,hl105_0,hi105_0⟩:=at_L1 HR0.out x16_1 p105 q105;obtain rfl:ad101=ad105:=(by injection e105);replace hx105_0:=(HB.out.cell (Zj w _ hx105_0)).trans hx105_0;have HR105_0:=Za hi105_0;have HC105_0:=Za hl105_0;clear hi105_0 hl105_0;replace p105:=Zz p105;replace q105:=Zz q105;obtain ⟨Ao11,co11,eo11⟩:=Kd.a7z HO_4.out;subst eo11;go_wp2
 go_loopg [27] k1 (fun kq v27 w'=> ∃(x4_2:List Int) (x27_2:Int),v27= .int .i64 x27_2/\Aside0 (aKz.l1 kq x4_2 l0 (l0.length:Int) x16_1 (rd_L1 l0 x16_1) ((rd_L1 l0 x16_1).length:Int) x27_2=some (r1,r2))/\Aside0 (kq<=k1)/\Aside0 (Kd.R (Kd.int .u8) 5 w' w.heap.size (fun _=>True) (.slice Ao11 x4_1.length co11) x4_2)/\Aside0 (Below w.heap.size w w'))
 case atStart=>exact ⟨(x4_1),(0),sd_,H',⟨Zv _⟩,⟨xd_ HO_4.out⟩,⟨bl_⟩⟩
 clear H'
 try clear c1
 try clear p1
 try clear q1
 try clear hx1
 try clear qi1
 try clear c2
 try clear c2b0
 try clear c2b1
 try clear p2
 try clear c3
 try clear c3b0
 try clear c3b1
 try clear c4
 try clear c4b0
 try clear c4b1
 try clear c7
 try clear c7b0
 try clear c8
 try clear c8b0
 try clear c9
 try clear c9b0
 try clear c10
 try clear c10b0
 try clear c10b1
 try clear c10b2
 try clear p10
 try clear q10
 try clear hx10
 try clear qi10
 try clear hx101_0
 try clear hx105_0
 try clear p1
 try clear p101
 try clear p105
 try clear p2
 try clear q1
 try clear q101
 try clear q105
 obtain ⟨x4_2,x27_2,rfl,HA,HK2,HO_4,HB⟩:=hrel;have hl4_2:=(Kd.aSz HO_4.out).1;rw [hl4_2] at HO_4
 (try simp only [hl4_2])
 rcases gk with _|k2
 ·exact Yf HA.out (by simp [aKz.l1])
 have H:=HA.out;clear HA;simp only [aKz.l1] at H;by_cases c12:x27_2<((rd_L1 l0 x16_1).length:Int)
 rotate_left
 ·rw [Yb c12] at H;have c12b0:=Ze c12;clear c12;have H':=Za H;clear H;go_wp2
  (try simp only [<-hl4_2])
  go_roundg k2
  case measure=>have:=HK1.out;have:=HK2.out;omega
  case rel=>exact ⟨(x4_2),(wrap64 (x16_1+1)),sd_,H',⟨by have:=HK1.out;have:=HK2.out;omega⟩,⟨by (try simp only [hl4_2]);(with_reducible repeat (first|apply Kd.R_alloc|apply Kd.dbz|apply Kd.cJz));exact HO_4.out⟩,⟨bl_⟩⟩
 rw [Ya c12] at H;have c12b0:=Zd c12;clear c12;by_cases c13:0<=x27_2
 rotate_left
 ·rw [Yb c13] at H;exact Yf H (by simp)
 rw [Ya c13] at H;have c13b0:=Zd c13;clear c13;by_cases c14:x27_2<((rd_L1 l0 x16_1).length:Int)
 rotate_left
 ·rw [Yb c14] at H;exact Yf H (by simp)
 rw [Ya c14] at H;have c14b0:=Zd c14;clear c14;by_cases c15:x27_2<(x4_2.length:Int)
 rotate_left
 ·rw [Yb c15] at H;exact Yf H (by simp)
 rw [Ya c15] at H;have c15b0:=Zd c15;clear c15;obtain ⟨y108,hy108⟩: ∃y_:List Int,y_=(x4_2.set (x27_2:Int).toNat (Go.bits .xor .u8 (rd x4_2 x27_2) (rd (rd_L1 l0 x16_1) x27_2))):=⟨_,rfl⟩
 first|rw [Zl, <-hy108] at H|rw [<-hy108] at H
 (try dsimp only at H)
 have Ny108:=Za hy108;clear hy108;have H':=Za H;clear H;have p106:0<=(x27_2:Int):=Zc as_;have q106:x27_2<((rd_L1 l0 x16_1).length:Int):=Zc as_;obtain ⟨ad106,e106,hx106_0⟩:=Kd.bqz HR105_0.out x27_2 p106 q106;cases e106
 replace hx106_0:=(HB.out.cell (Zj w _ hx106_0)).trans hx106_0;replace p106:=Zz p106;replace q106:=Zz q106;have p107:0<=(x27_2:Int):=Zc as_;have q107:x27_2<(x4_2.length:Int):=Zc as_;obtain ⟨ad107,e107,hx107_0⟩:=Kd.bqz (Kd.aSz HO_4.out).2.2 x27_2 p107 q107;cases e107
 replace p107:=Zz p107;replace q107:=Zz q107;have p16:0<=(x27_2:Int):=Zc as_;have q16:(x27_2:Int)<((x4_2.length:Int):Int):=Zc as_;obtain ⟨go16,co16,eo16,gb16,gl16,cl16,HG16⟩:=Kd.dBz HO_4.out (by omega)
 (first|cases eo16|(injection eo16 with ea_ en_ ec_;(first|subst ea_|(injection ea_ with ea_;subst ea_));subst ec_;clear en_))
 have GB16:=Za gb16;have GG16:=Za HG16;clear gb16 gl16 HG16
 (first|simp only [add_plain] at hx107_0|skip)
 obtain ⟨hx16_0,hf16_0⟩:=Kd.R_celln 0 HO_4.out (x27_2:Int) p16 q16;replace p16:=Zz p16;replace q16:=Zz q16;have HP17:=Kd.R_putg HO_4.out (x27_2:Int) (Go.bits .xor .u8 (rd x4_2 x27_2) (rd (rd_L1 l0 x16_1) x27_2))
 go_wp2_with (first|((with_reducible refine dcz (t:=5) (p:=38) rfl ?_);refine dVz (t:=5) (p:=38) (v:= ?vo_w18) (w1:=(wr.setCell ⟨go16,(x27_2:Int).toNat,none⟩ (.int .u8 (Go.bits .xor .u8 (rd x4_2 x27_2) (rd (rd_L1 l0 x16_1) x27_2))))) ?hg ?ho ?hn ?hr ?_;(case ho=>rfl);(case hg=>rfl);(case hn=>rfl);(case hr=>first|(go_simp;done)|(go_simp;rfl));intro w18 hw;have hg:wr.grownBy w18 (some go16):=(by rw [hw];exact HP17.2);have hp_:Kd.R (Kd.int .u8) 5 w18 w.heap.size (fun _=>True) (.slice (some ⟨go16,0,none⟩) x4_2.length co11) y108:=(by rw [hw,Ny108.out];exact HP17.1);clear HP17;have n_:=Zb (Za (hp_)) (Za ((by rw [hw];exact dxz (HB.out) GB16.out:Below w.heap.size w w18)));clear HO_4 HB;obtain ⟨HO_4,HB⟩:=n_;clear hg hw hp_))
 (try simp only [<-hl4_2])
 go_roundg k2
 case measure=>have:=HK1.out;have:=HK2.out;omega
 case rel=>exact ⟨(y108),(wrap64 (x27_2+1)),sd_,H',⟨by have:=HK1.out;have:=HK2.out;omega⟩,⟨by (try simp only [hl4_2]);(with_reducible repeat (first|apply Kd.R_alloc|apply Kd.dbz|apply Kd.cJz));exact HO_4.out⟩,⟨bl_⟩⟩
def bits_Len64.f (a0:Int):Option (Int):=if 0<=a0 then (if a0<=18446744073709551615 then (some (Lib.bitLen a0.toNat:Int)) else (none)) else (none)
theorem bits_Len64.calls (a0 : Int) (r : Int) (w : World) (h : bits_Len64.f a0 = some r) :
  Calls Tryz.prog 162 #[.int .u64 a0] w fun e w'=>e= .returned (.int .i64 r)/\Drawn0 w w':=by
 unfold bits_Len64.f at h;by_cases h0:0<=a0
 case neg=>rw [Yb h0] at h;cases h
 rw [Ya h0] at h;by_cases h1:a0<=18446744073709551615
 case neg=>rw [Yb h1] at h;cases h
 rw [Ya h1] at h;cases h
 refine (bits_Len64_told a0 w h0 h1).mono ?_;rintro e w' ⟨rfl,rfl⟩;exact ⟨rfl,Drawn0.refl _⟩
def b6z.f (a0:Int):Option (Int):=(bits_Len64.f a0).bind fun t264=>(some (wrap64 (t264 - 1)))
theorem b6z.calls (a0 : Int) (r : Int) (w : World) (h : b6z.f a0 = some r) :
  Calls Tryz.prog 124 #[.int .u64 a0] w fun e w'=>e= .returned (.int .i64 r)/\Drawn0 w w':=by
 have H:=h;clear h;unfold b6z.f at H;obtain ⟨t264,A2,H⟩:=ob_ H
 (try dsimp only at H)
 obtain rfl:=Zn H;go_enter Tryz.func124,Tryz.ntmps124
 go_wp2_with (first|((with_reducible refine abz (f:=162) rfl ?_);refine gl_ (some 4) Tryz.func162 #[.int .u64 a0] ?_;(with_reducible refine (bits_Len64.calls a0 t264 _ A2.out).mono ?_);rintro e w' ⟨rfl,⟨nd,rfl⟩⟩;refine ⟨_,rfl,?_⟩))
 go_ret;exact ⟨sd_,dn_⟩
def buz.l0:Nat->Int->Int->Int->Int->Option (Int)
 |0,_,_,_,_=>none
 |k+1,x0,x1,x5,x6=>if x6>=x5 then (if 0<=x6 then (if (Go.bits .and .u64 (shr .u64 x0 x6) 1)=1 then (if 0<=(wrap64 (x6 - x5)) then (buz.l0 k (Go.bits .xor .u64 x0 (shl .u64 (IntKind.u64.wrap (x1)) (wrap64 (x6 - x5)))) x1 x5 (wrap64 (x6 - 1))) else (none)) else (buz.l0 k x0 x1 x5 (wrap64 (x6 - 1)))) else (none)) else (some ((x0) % 4294967296))
def buz.f (k:Nat) (a0:Int) (a1:Int):Option (Int):=if a1=0 then (some 0) else ((b6z.f (IntKind.u64.wrap (a1))).bind fun t265=>((b6z.f a0).bind fun t266=>(buz.l0 k a0 a1 t265 t266)))
theorem buz.calls (k : Nat) (a0 : Int) (a1 : Int) (r : Int) (w : World) (h : buz.f k a0 a1 = some r) :
  Calls Tryz.prog 164 #[.int .u64 a0, .int .u32 a1] w fun e w'=>e= .returned (.int .u32 r)/\Drawn0 w w':=by
 have H:=h;clear h;unfold buz.f at H;by_cases c3:a1=0
 ·rw [Ya c3] at H;have c3b0:(a1==0)=true:=Ye c3;have c3b1:(a1 !=0)=false:=Yc c3;clear c3;obtain rfl:=Zn H;go_enter Tryz.func164,Tryz.ntmps164;go_wp2;go_ret;exact ⟨sd_,dn_⟩
 ·rw [Yb c3] at H;have c3b0:(a1==0)=false:=Zq c3;have c3b1:(a1 !=0)=true:=Yd c3;obtain ⟨t265,A4,H⟩:=ob_ H
  (try dsimp only at H)
  obtain ⟨t266,A5,H⟩:=ob_ H
  (try dsimp only at H)
  have H':=Za H;clear H;go_enter Tryz.func164,Tryz.ntmps164
  go_wp2_with (first|((with_reducible refine abz (f:=124) rfl ?_);refine gl_ (some 11) Tryz.func124 #[.int .u64 (IntKind.u64.wrap (a1))] ?_;(with_reducible refine (b6z.calls (IntKind.u64.wrap (a1)) t265 _ A4.out).mono ?_);rintro e w' ⟨rfl,⟨nd,rfl⟩⟩;refine ⟨_,rfl,?_⟩)|((with_reducible refine abz (f:=124) rfl ?_);refine gl_ (some 13) Tryz.func124 #[.int .u64 a0] ?_;(with_reducible refine (b6z.calls a0 t266 _ A5.out).mono ?_);rintro e w' ⟨rfl,⟨nd,rfl⟩⟩;refine ⟨_,rfl,?_⟩))
  go_loopg [0,6] k (fun kq v0 v6 w'=> ∃(x0_1:Int) (x6_1:Int),v0= .int .u64 x0_1/\v6= .int .i64 x6_1/\Aside0 (buz.l0 kq x0_1 a1 t265 x6_1=some r)/\Aside0 (kq<=k)/\Drawn0 w w')
  case atStart=>exact ⟨(a0),(t266),sd_,sd_,H',⟨Zv _⟩,dn_⟩
  clear H'
  try clear c1
  try clear p2
  try clear c3
  try clear c3b0
  try clear c3b1
  obtain ⟨x0_1,x6_1,rfl,rfl,HA,HK1,⟨m1,rfl⟩⟩:=hrel;rcases gk with _|k1
  ·exact Yf HA.out (by simp [buz.l0])
  have H:=HA.out;clear HA;simp only [buz.l0] at H;by_cases c6:x6_1>=t265
  rotate_left
  ·rw [Yb c6] at H;have c6b0:decide (t265<=x6_1)=false:=Ze c6;clear c6;obtain rfl:=Zn H;go_wp2;go_ret;exact ⟨sd_,dn_⟩
  rw [Ya c6] at H;have c6b0:decide (t265<=x6_1)=true:=Zd c6;clear c6;by_cases c7:0<=x6_1
  rotate_left
  ·rw [Yb c7] at H;exact Yf H (by simp)
  rw [Ya c7] at H;have c7b0:=Zz c7;have c7b1:=Zd c7;clear c7;obtain ⟨ji8,hji8⟩: ∃j_:Int,(shr .u64 x0_1 x6_1)=j_:=⟨_,rfl⟩
  replace H:(if (Go.bits .and .u64 (ji8) 1)=1 then (if 0<=(wrap64 (x6_1 - t265)) then (buz.l0 k1 (Go.bits .xor .u64 x0_1 (shl .u64 (IntKind.u64.wrap (a1)) (wrap64 (x6_1 - t265)))) a1 t265 (wrap64 (x6_1 - 1))) else (none)) else (buz.l0 k1 x0_1 a1 t265 (wrap64 (x6_1 - 1))))=some r:=by first|(rw [hji8] at H;exact H)|(simp only [hji8] at H|-;exact H)
  have hji8_:(x0_1 / 2^min x6_1.toNat 64)=ji8:=hji8;have hji8z:x6_1<=64->(x0_1 / 2^x6_1.toNat)=ji8:=shr_small hji8;by_cases c9:(Go.bits .and .u64 (ji8) 1)=1
  rotate_left
  ·rw [Yb c9] at H;have c9b0:((Go.bits .and .u64 (ji8) 1)==1)=false:=Zq c9;have c9b1:((Go.bits .and .u64 (ji8) 1) !=1)=true:=Yd c9;have H':=Za H;clear H;go_wp2
   (first|go_roundg k1|(subst hji12;go_roundg k1))
   case measure=>have:=HK1.out;omega
   case rel=>exact ⟨(x0_1),(wrap64 (x6_1 - 1)),sd_,sd_,H',⟨by have:=HK1.out;omega⟩,dn_⟩
  rw [Ya c9] at H;have c9b0:((Go.bits .and .u64 (ji8) 1)==1)=true:=Ye c9;have c9b1:((Go.bits .and .u64 (ji8) 1) !=1)=false:=Yc c9;clear c9;obtain ⟨ji10,hji10⟩: ∃j_:Int,(wrap64 (x6_1 - t265))=j_:=⟨_,rfl⟩
  replace H:(if 0<=(ji10) then (buz.l0 k1 (Go.bits .xor .u64 x0_1 (shl .u64 (IntKind.u64.wrap (a1)) (ji10))) a1 t265 (wrap64 (x6_1 - 1))) else (none))=some r:=by first|(rw [hji10] at H;exact H)|(simp only [hji10] at H|-;exact H)
  have hji10w:(IntKind.i64.wrap (x6_1 - t265))=ji10:=(i64_w _).trans hji10;by_cases c11:0<=(ji10)
  rotate_left
  ·rw [Yb c11] at H;exact Yf H (by simp)
  rw [Ya c11] at H;have c11b0:=Zz c11;have c11b1:=Zd c11;clear c11;obtain ⟨ji12,hji12⟩: ∃j_:Int,(shl .u64 (IntKind.u64.wrap (a1)) (ji10))=j_:=⟨_,rfl⟩
  replace H:(buz.l0 k1 (Go.bits .xor .u64 x0_1 (ji12)) a1 t265 (wrap64 (x6_1 - 1)))=some r:=by first|(rw [hji12] at H;exact H)|(simp only [hji12] at H|-;exact H)
  have hji12_:(IntKind.u64.wrap ((IntKind.u64.wrap (a1))*2^min (ji10).toNat 64))=ji12:=hji12;have hji12z:(ji10)<=64->(IntKind.u64.wrap ((IntKind.u64.wrap (a1))*2^(ji10).toNat))=ji12:=shl_small hji12;have H':=Za H;clear H;go_wp2
  (first|go_roundg k1|(subst hji12;go_roundg k1))
  case measure=>have:=HK1.out;omega
  case rel=>exact ⟨(Go.bits .xor .u64 x0_1 (ji12)),(wrap64 (x6_1 - 1)),(by first|rfl|(simp;done)|(simp only [<-hji12] <;>(first|rfl|simp))|(simp [*];done)),sd_,H',⟨by have:=HK1.out;omega⟩,dn_⟩
def bits_Len32.f (a0:Int):Option (Int):=if 0<=a0 then (if a0<=4294967295 then (some (Lib.bitLen a0.toNat:Int)) else (none)) else (none)
theorem bits_Len32.calls (a0 : Int) (r : Int) (w : World) (h : bits_Len32.f a0 = some r) :
  Calls Tryz.prog 191 #[.int .u32 a0] w fun e w'=>e= .returned (.int .i64 r)/\Drawn0 w w':=by
 unfold bits_Len32.f at h;by_cases h0:0<=a0
 case neg=>rw [Yb h0] at h;cases h
 rw [Ya h0] at h;by_cases h1:a0<=4294967295
 case neg=>rw [Yb h1] at h;cases h
 rw [Ya h1] at h;cases h
 refine (bits_Len32_told a0 w h0 h1).mono ?_;rintro e w' ⟨rfl,rfl⟩;exact ⟨rfl,Drawn0.refl _⟩
def b1z.at_ (a b:Int):Nat->Int
 |0=>0
 |i+1=>if Go.bits .and .u32 (shr .u32 b (i:Int)) 1=1 then Go.bits .xor .u64 (b1z.at_ a b i) (shl .u64 (IntKind.u64.wrap a) (i:Int)) else b1z.at_ a b i
def b1z.f (a0:Int) (a1:Int):Option (Int):=(bits_Len32.f a1).bind fun n=>if 0<=n then (if n<=32 then (some (b1z.at_ a0 a1 n.toNat)) else (none)) else (none)
theorem poly_Mul1.calls (b i : Int) (g : Nat) (W : World) (h1 : W.heap[g]? = some (.cells #[.int .u32 b] 77 (0, 0))) (hi : 0 <= i) :
  Calls Tryz.prog 190 #[.int .i64 i, .pointer (some ⟨g,0,none⟩)] W fun e w'=>e= .returned (.bool (Go.bits .and .u32 (shr .u32 b i) 1==1))/\Drawn0 W w':=by
 have hc1:=(aez h1 0).trans rfl;obtain ⟨z,hz⟩: ∃z:Int,shr .u32 b i=z:=⟨_,rfl⟩;have hz_:(b / 2^min i.toNat 32)=z:=hz;have hzz:i<=32->(b / 2^i.toNat)=z:=shr_small hz;have hi1:=Zz hi;have hi2:decide (0<=i)=true:=Zd hi;rw [hz];go_enter Tryz.func190,Tryz.ntmps190;go_wp2;go_ret;exact ⟨rfl,Drawn0.refl _⟩
theorem b1z.calls (a0 : Int) (a1 : Int) (r : Int) (w : World) (h : b1z.f a0 a1 = some r) :
  Calls Tryz.prog 177 #[.int .u32 a0, .int .u32 a1] w fun e w'=>e= .returned (.int .u64 r)/\Below w.heap.size w w':=by
 unfold b1z.f at h
 cases hn:bits_Len32.f a1 with
 |none=>rw [hn] at h;cases h
 |some n=>
  rw [hn] at h;simp only [Zl] at h;by_cases h0:0<=n
  case neg=>rw [Yb h0] at h;cases h
  rw [Ya h0] at h;by_cases h32:n<=32
  case neg=>rw [Yb h32] at h;cases h
  rw [Ya h32] at h;cases h
  have HN:=Za hn;clear hn;go_enter Tryz.func177,Tryz.ntmps177
  go_wp2_with (first|(go_at_call 191;refine (bits_Len32.calls a1 n _ HN.out).mono ?_;rintro e w9 ⟨rfl,m9,rfl⟩))
  go_loopw [5,11] (fun p i wr=> ∃k:Nat,(k:Int)<=n/\p= .int .u64 (b1z.at_ a0 a1 k)/\i= .int .i64 k/\Aside0 (Below w.heap.size w wr)/\Aside0 (wr.heap[w.heap.size]?=some (.cells #[.int .u32 a1] 77 (0,0))))
   (fun _ i _=>40 - (intOf i).toNat)
  case atStart=>exact ⟨0,h0,rfl,rfl,⟨by repeat (first|exact Zw _ _|apply aZz|apply aoz)⟩,⟨by simpa using heap_alloc_new w _⟩⟩
  obtain ⟨k,hk,rfl,rfl,HB,BK⟩:=hrel;by_cases hlt:(k:Int)<n
  ·obtain ⟨z,hz⟩: ∃z:Int,shl .u64 (IntKind.u64.wrap a0) (k:Int)=z:=⟨_,rfl⟩;have hz_:(IntKind.u64.wrap (IntKind.u64.wrap a0*2^min (k:Int).toNat 64))=z:=hz;have hzz:(k:Int)<=64->(IntKind.u64.wrap (IntKind.u64.wrap a0*2^(k:Int).toNat))=z:=shl_small hz
   have hs:b1z.at_ a0 a1 (k+1)=if (Go.bits .and .u32 (shr .u32 a1 (k:Int)) 1==1)=true then Go.bits .xor .u64 (b1z.at_ a0 a1 k) z else b1z.at_ a0 a1 k:=by
    simp only [b1z.at_,beq_iff_eq,hz]
   generalize hq:(Go.bits .and .u32 (shr .u32 a1 (k:Int)) 1==1)=q at hs;have HQ:=Za hq;have HS:=Za hs;clear hq hs
   cases q with
   |true=>
    go_wp2_with (first|(go_at_call 190;refine (poly_Mul1.calls a1 (k:Int) w.heap.size _ BK.out (by omega)).mono ?_;rintro e w9 ⟨rfl,m9,rfl⟩;rw [HQ.out]))
    go_roundw
    case rel=>exact ⟨k+1,by omega,by rw [HS.out,Ya (by trivial), <-hzz (by omega)];simp,by go_num,⟨by repeat (first|exact HB.out|apply aZz)⟩,⟨BK.out⟩⟩
    case measure=>simp [intOf];omega
   |false=>
    go_wp2_with (first|(go_at_call 190;refine (poly_Mul1.calls a1 (k:Int) w.heap.size _ BK.out (by omega)).mono ?_;rintro e w9 ⟨rfl,m9,rfl⟩;rw [HQ.out]))
    go_roundw
    case rel=>exact ⟨k+1,by omega,by rw [HS.out];rfl,by go_num,⟨by repeat (first|exact HB.out|apply aZz)⟩,⟨BK.out⟩⟩
    case measure=>simp [intOf];omega
  ·have:n=(k:Int):=by omega
   subst this;go_wp2;go_ret;exact ⟨by simp,HB.out⟩
def bOz.f (k:Nat) (a0:Int) (a1:Int) (a2:Int):Option (Int):=(b1z.f a0 a1).bind fun t267=>((buz.f k t267 a2).bind fun t268=>(some t268))
theorem bOz.calls (k : Nat) (a0 : Int) (a1 : Int) (a2 : Int) (r : Int) (w : World) (h : bOz.f k a0 a1 a2 = some r) :
  Calls Tryz.prog 152 #[.int .u32 a0, .int .u32 a1, .int .u32 a2] w fun e w'=>e= .returned (.int .u32 r)/\Below w.heap.size w w':=by
 have HB:=Za (Zw w.heap.size w);have H:=h;clear h;unfold bOz.f at H;obtain ⟨t267,A4,H⟩:=ob_ H
 (try dsimp only at H)
 obtain ⟨t268,A5,H⟩:=ob_ H
 (try dsimp only at H)
 obtain rfl:=Zn H;go_enter Tryz.func152,Tryz.ntmps152
 go_wp2_with (first|((with_reducible refine abz (f:=177) rfl ?_);refine gl_ (some 9) Tryz.func177 #[.int .u32 a0, .int .u32 a1] ?_;(with_reducible refine (b1z.calls a0 a1 t267 _ A4.out).mono ?_);rintro e w6 ⟨rfl,hb⟩;refine ⟨_,rfl,?_⟩;have n0_:=hs_ HB hb;clear HB;have HB:=n0_;clear n0_;(try clear hb))|((with_reducible refine abz (f:=164) rfl ?_);refine gl_ (some 11) Tryz.func164 #[.int .u64 t267, .int .u32 a2] ?_;(with_reducible refine (buz.calls k t267 a2 t268 _ A5.out).mono ?_);rintro e w' ⟨rfl,⟨nd,rfl⟩⟩;refine ⟨_,rfl,?_⟩))
 go_ret;exact ⟨er_,bl_⟩
def bHz.l0:Nat->Int->Int->Int->Int->Option (Int)
 |0,_,_,_,_=>none
 |k+1,x1,x5,x8,x9=>if x9<x8 then ((bOz.f k x5 x5 x1).bind fun t270=>(bHz.l0 k x1 t270 x8 (wrap64 (x9+1)))) else (some x5)
def bHz.f (k:Nat) (a0:Int) (a1:Int):Option (Int):=(buz.f k 2 a1).bind fun t269=>(bHz.l0 k a1 t269 a0 0)
theorem bHz.calls (k : Nat) (a0 : Int) (a1 : Int) (r : Int) (w : World) (h : bHz.f k a0 a1 = some r) :
  Calls Tryz.prog 186 #[.int .i64 a0, .int .u32 a1] w fun e w'=>e= .returned (.int .u32 r)/\Below w.heap.size w w':=by
 have HB:=Za (Zw w.heap.size w);have H:=h;clear h;unfold bHz.f at H;obtain ⟨t269,A3,H⟩:=ob_ H
 (try dsimp only at H)
 have H':=Za H;clear H;go_enter Tryz.func186,Tryz.ntmps186
 go_wp2_with (first|((with_reducible refine abz (f:=164) rfl ?_);refine gl_ (some 7) Tryz.func164 #[.int .u64 2, .int .u32 a1] ?_;(with_reducible refine (buz.calls k 2 a1 t269 _ A3.out).mono ?_);rintro e w' ⟨rfl,⟨nd,rfl⟩⟩;refine ⟨_,rfl,?_⟩))
 go_loopg [5,9] k (fun kq v5 v9 w'=> ∃(x5_1:Int) (x9_1:Int),v5= .int .u32 x5_1/\v9= .int .i64 x9_1/\Aside0 (bHz.l0 kq a1 x5_1 a0 x9_1=some r)/\Aside0 (kq<=k)/\Aside0 (Below w.heap.size w w'))
 case atStart=>exact ⟨(t269),(0),sd_,sd_,H',⟨Zv _⟩,⟨bl_⟩⟩
 clear H'
 try clear c1
 try clear p2
 obtain ⟨x5_1,x9_1,rfl,rfl,HA,HK1,HB⟩:=hrel;rcases gk with _|k1
 ·exact Yf HA.out (by simp [bHz.l0])
 have H:=HA.out;clear HA;simp only [bHz.l0] at H;by_cases c4:x9_1<a0
 ·rw [Ya c4] at H;have c4b0:=Zd c4;clear c4;obtain ⟨t270,A5,H⟩:=ob_ H
  (try dsimp only at H)
  have H':=Za H;clear H
  go_wp2_with (first|((with_reducible refine abz (f:=152) rfl ?_);refine gl_ (some 14) Tryz.func152 #[.int .u32 x5_1, .int .u32 x5_1, .int .u32 a1] ?_;(with_reducible refine (bOz.calls k1 x5_1 x5_1 a1 t270 _ A5.out).mono ?_);rintro e w6 ⟨rfl,hb⟩;refine ⟨_,rfl,?_⟩;have n0_:=hs_ HB hb;clear HB;have HB:=n0_;clear n0_;(try clear hb)))
  go_roundg k1
  case measure=>have:=HK1.out;omega
  case rel=>exact ⟨(t270),(wrap64 (x9_1+1)),sd_,sd_,H',⟨by have:=HK1.out;omega⟩,⟨bl_⟩⟩
 ·rw [Yb c4] at H;have c4b0:=Ze c4;clear c4;obtain rfl:=Zn H;go_wp2;go_ret;exact ⟨er_,bl_⟩
def cFz.l0:Nat->Int->Int->Option (Int)
 |0,_,_=>none
 |k+1,x0,x1=>if x1=0 then (some x0) else ((buz.f k (IntKind.u64.wrap (x0)) x1).bind fun t271=>(cFz.l0 k x1 t271))
def cFz.f (k:Nat) (a0:Int) (a1:Int):Option (Int):=cFz.l0 k a0 a1
theorem cFz.calls (k : Nat) (a0 : Int) (a1 : Int) (r : Int) (w : World) (h : cFz.f k a0 a1 = some r) :
  Calls Tryz.prog 187 #[.int .u32 a0, .int .u32 a1] w fun e w'=>e= .returned (.int .u32 r)/\Drawn0 w w':=by
 have H:=h;clear h;unfold cFz.f at H;have H':=Za H;clear H;go_enter Tryz.func187,Tryz.ntmps187;go_wp2
 go_loopg [0,1] k (fun kq v0 v1 w'=> ∃(x0_1:Int) (x1_1:Int),v0= .int .u32 x0_1/\v1= .int .u32 x1_1/\Aside0 (cFz.l0 kq x0_1 x1_1=some r)/\Aside0 (kq<=k)/\Drawn0 w w')
 case atStart=>exact ⟨(a0),(a1),sd_,sd_,H',⟨Zv _⟩,dn_⟩
 clear H'
 try clear c1
 try clear p2
 obtain ⟨x0_1,x1_1,rfl,rfl,HA,HK1,⟨m1,rfl⟩⟩:=hrel;rcases gk with _|k1
 ·exact Yf HA.out (by simp [cFz.l0])
 have H:=HA.out;clear HA;simp only [cFz.l0] at H;by_cases c3:x1_1=0
 ·rw [Ya c3] at H;have c3b0:(x1_1==0)=true:=Ye c3;have c3b1:(x1_1 !=0)=false:=Yc c3;clear c3;obtain rfl:=Zn H;go_wp2;go_ret;exact ⟨sd_,dn_⟩
 ·rw [Yb c3] at H;have c3b0:(x1_1==0)=false:=Zq c3;have c3b1:(x1_1 !=0)=true:=Yd c3;obtain ⟨t271,A4,H⟩:=ob_ H
  (try dsimp only at H)
  have H':=Za H;clear H
  go_wp2_with (first|((with_reducible refine abz (f:=164) rfl ?_);refine gl_ (some 11) Tryz.func164 #[.int .u64 (IntKind.u64.wrap (x0_1)), .int .u32 x1_1] ?_;(with_reducible refine (buz.calls k1 (IntKind.u64.wrap (x0_1)) x1_1 t271 _ A4.out).mono ?_);rintro e w' ⟨rfl,⟨nd,rfl⟩⟩;refine ⟨_,rfl,?_⟩))
  go_roundg k1
  case measure=>have:=HK1.out;omega
  case rel=>exact ⟨(x1_1),(t271),sd_,sd_,H',⟨by have:=HK1.out;omega⟩,dn_⟩
mutual
def bhz.j0:Nat->Int->Int->Bool->Option (Bool)
 |0,_,_,_=>none
 |k+1,x0,x3,x21=>if x21=true then (some false) else (bhz.l0 k x0 x3 1)
def bhz.l0:Nat->Int->Int->Int->Option (Bool)
 |0,_,_,_=>none
 |k+1,x0,x3,x4=>if x4<=(wrap64 (Int.tdiv x3 2)) then ((bHz.f k x4 x0).bind fun t275=>((cFz.f k x0 (Go.bits .xor .u32 t275 2)).bind fun t276=>(if t276=1 then (bhz.l0 k x0 x3 (wrap64 (x4+1))) else (some false)))) else (some true)
end
def bhz.f (k:Nat) (a0:Int):Option (Bool):=(b6z.f (IntKind.u64.wrap (a0))).bind fun t272=>(if t272<1 then (bhz.j0 k a0 t272 true) else (if t272>16 then (bhz.j0 k a0 t272 true) else ((bHz.f k t272 a0).bind fun t273=>((buz.f k 2 a0).bind fun t274=>(bhz.j0 k a0 t272 (t273 !=t274))))))
theorem bhz.calls (k : Nat) (a0 : Int) (r : Bool) (w : World) (h : bhz.f k a0 = some r) :
  Calls Tryz.prog 163 #[.int .u32 a0] w fun e w'=>e= .returned (.bool r)/\Below w.heap.size w w':=by
 have HB:=Za (Zw w.heap.size w);have H:=h;clear h;unfold bhz.f at H;obtain ⟨t272,A2,H⟩:=ob_ H
 (try dsimp only at H)
 have HC3:=Za H;clear H;go_enter Tryz.func163,Tryz.ntmps163
 go_upto_region 2 with (first|((with_reducible refine abz (f:=124) rfl ?_);refine gl_ (some 7) Tryz.func124 #[.int .u64 (IntKind.u64.wrap (a0))] ?_;(with_reducible refine (b6z.calls (IntKind.u64.wrap (a0)) t272 _ A2.out).mono ?_);rintro e w' ⟨rfl,⟨nd,rfl⟩⟩;refine ⟨_,rfl,?_⟩))
 (try simp only [Act.put,Zg,Zh,Zi])
 go_cut [21] (fun v21 wc=> ∃(kq:Nat) (x21_2:Bool),v21= .bool x21_2/\Aside0 (bhz.j0 kq a0 t272 x21_2=some r)/\Aside0 (kq<=k)/\Aside0 (Below w.heap.size w wc))
 case first=>
  have H:=HC3.out;clear HC3;by_cases c4:t272<1
  ·rw [Ya c4] at H;have c4b0:=Zd c4;clear c4
   (first|rw [c4b0] |(simp only [i64_w,i32_w];rw [c4b0])|skip)
   have H':=Za H;clear H;go_wp2
   go_meet
   case rel=>exact ⟨_,(true),sd_,H',⟨by first|omega|exact Zv _⟩,⟨bl_⟩⟩
  ·rw [Yb c4] at H;have c4b0:=Ze c4;clear c4
   (first|rw [c4b0] |(simp only [i64_w,i32_w];rw [c4b0])|skip)
   by_cases c5:t272>16
   ·rw [Ya c5] at H;have c5b0:decide (16<t272)=true:=Zd c5;clear c5;have H':=Za H;clear H;go_wp2
    go_meet
    case rel=>exact ⟨_,(true),sd_,H',⟨by first|omega|exact Zv _⟩,⟨bl_⟩⟩
   ·rw [Yb c5] at H;have c5b0:decide (16<t272)=false:=Ze c5;clear c5;obtain ⟨t273,A6,H⟩:=ob_ H
    (try dsimp only at H)
    obtain ⟨t274,A7,H⟩:=ob_ H
    (try dsimp only at H)
    have H':=Za H;clear H
    go_wp2_with (first|(go_at_call 186;(with_reducible refine (bHz.calls k t272 a0 t273 _ A6.out).mono ?_);rintro e w8 ⟨rfl,hb⟩;have n0_:=hs_ HB hb;clear HB;have HB:=n0_;clear n0_;(try clear hb))|(go_at_call 164;(with_reducible refine (buz.calls k 2 a0 t274 _ A7.out).mono ?_);rintro e w' ⟨rfl,⟨nd,rfl⟩⟩))
    go_meet
    case rel=>exact ⟨_,((t273 !=t274)),sd_,H',⟨by first|omega|exact Zv _⟩,⟨bl_⟩⟩
 case rest=>
  clear HC3
  try clear c1
  try clear p2
  try clear c4
  try clear c4b0
  try clear c5
  try clear c5b0
  obtain ⟨kq,x21_2,rfl,HA,HJ2,HB⟩:=hcut;rcases kq with _|kj2
  ·exact Yf HA.out (by simp [bhz.j0])
  have H:=HA.out;clear HA;simp only [bhz.j0] at H;by_cases c9:x21_2=true
  ·subst c9;rw [Ya rfl] at H;obtain rfl:=Zn H;go_wp2;go_ret;exact ⟨er_,bl_⟩
  ·replace c9:=Zr c9;subst c9;rw [Yb (show¬(false=true) by decide)] at H;have H':=Za H;clear H;go_wp2
   go_loopg [4] kj2 (fun kq v4 w'=> ∃(x4_2:Int),v4= .int .i64 x4_2/\Aside0 (bhz.l0 kq a0 t272 x4_2=some r)/\Aside0 (kq<=kj2)/\Aside0 (Below w.heap.size w w'))
   case atStart=>exact ⟨(1),sd_,H',⟨Zv _⟩,⟨bl_⟩⟩
   clear H'
   try clear c1
   try clear p2
   try clear c4
   try clear c4b0
   try clear c5
   try clear c5b0
   try clear c9
   try clear p2
   obtain ⟨x4_2,rfl,HA,HK2,HB⟩:=hrel;rcases gk with _|k2
   ·exact Yf HA.out (by simp [bhz.l0])
   have H:=HA.out;clear HA;simp only [bhz.l0] at H;by_cases c10:x4_2<=(wrap64 (Int.tdiv t272 2))
   rotate_left
   ·rw [Yb c10] at H;have c10b0:=Ze c10;clear c10;obtain rfl:=Zn H;go_wp2;go_ret;exact ⟨er_,bl_⟩
   rw [Ya c10] at H;have c10b0:=Zd c10;clear c10;obtain ⟨t275,A11,H⟩:=ob_ H
   (try dsimp only at H)
   obtain ⟨t276,A12,H⟩:=ob_ H
   (try dsimp only at H)
   by_cases c13:t276=1
   ·rw [Ya c13] at H;have c13b0:(t276==1)=true:=Ye c13;have c13b1:(t276 !=1)=false:=Yc c13;clear c13;have H':=Za H;clear H
    go_wp2_with (first|((with_reducible refine abz (f:=186) rfl ?_);refine gl_ (some 31) Tryz.func186 #[.int .i64 x4_2, .int .u32 a0] ?_;(with_reducible refine (bHz.calls k2 x4_2 a0 t275 _ A11.out).mono ?_);rintro e w14 ⟨rfl,hb⟩;refine ⟨_,rfl,?_⟩;have n0_:=hs_ HB hb;clear HB;have HB:=n0_;clear n0_;(try clear hb))|((with_reducible refine abz (f:=187) rfl ?_);refine gl_ (some 33) Tryz.func187 #[.int .u32 a0, .int .u32 (Go.bits .xor .u32 t275 2)] ?_;(with_reducible refine (cFz.calls k2 a0 (Go.bits .xor .u32 t275 2) t276 _ A12.out).mono ?_);rintro e w' ⟨rfl,⟨nd,rfl⟩⟩;refine ⟨_,rfl,?_⟩))
    go_roundg k2
    case measure=>have:=HJ2.out;have:=HK2.out;omega
    case rel=>exact ⟨(wrap64 (x4_2+1)),sd_,H',⟨by have:=HJ2.out;have:=HK2.out;omega⟩,⟨bl_⟩⟩
   ·rw [Yb c13] at H;have c13b0:(t276==1)=false:=Zq c13;have c13b1:(t276 !=1)=true:=Yd c13;obtain rfl:=Zn H
    go_wp2_with (first|((with_reducible refine abz (f:=186) rfl ?_);refine gl_ (some 31) Tryz.func186 #[.int .i64 x4_2, .int .u32 a0] ?_;(with_reducible refine (bHz.calls k2 x4_2 a0 t275 _ A11.out).mono ?_);rintro e w15 ⟨rfl,hb⟩;refine ⟨_,rfl,?_⟩;have n0_:=hs_ HB hb;clear HB;have HB:=n0_;clear n0_;(try clear hb))|((with_reducible refine abz (f:=187) rfl ?_);refine gl_ (some 33) Tryz.func187 #[.int .u32 a0, .int .u32 (Go.bits .xor .u32 t275 2)] ?_;(with_reducible refine (cFz.calls k2 a0 (Go.bits .xor .u32 t275 2) t276 _ A12.out).mono ?_);rintro e w' ⟨rfl,⟨nd,rfl⟩⟩;refine ⟨_,rfl,?_⟩))
    go_ret;exact ⟨er_,bl_⟩
structure BB (w w':World) (g:Nat):Prop where
 os:w'.os=w.os
 tape:w'.tape=w.tape
 output:w'.output=w.output
 size:w.heap.size<=w'.heap.size
 block: ∀i,i<w.heap.size->i≠g->w'.heap[i]?=w.heap[i]?
theorem BB.of_below {w w':World} (h:Below w.heap.size w w') (g:Nat):BB w w' g:=⟨h.os,h.tape,h.output,h.size,fun i hi _=>h.block i hi⟩
theorem BB.refl (w:World) (g:Nat):BB w w g:=BB.of_below (Zw _ _) g
theorem BB.trans {a b c:World} {g:Nat} (h:BB a b g) (k:BB b c g):BB a c g:=
 ⟨k.os.trans h.os,k.tape.trans h.tape,k.output.trans h.output,Zt h.size k.size,fun i hi hg=>(k.block i (Zp hi h.size) hg).trans (h.block i hi hg)⟩
theorem BB.keep {w w':World} {g:Nat} (h:BB w w' g):KeepBut w w' g none:=⟨h.size,fun i hi hg _=>h.block i hi hg⟩
theorem BB.below {w0 w w':World} {g:Nat} (h:BB w w' g) (hB:Below w0.heap.size w0 w) (hg:w0.heap.size<=g):Below w0.heap.size w0 w':=
 ⟨h.os.trans hB.os,h.tape.trans hB.tape,h.output.trans hB.output,Zt hB.size h.size,fun i hi=>(h.block i (Zp hi hB.size) (by omega)).trans (hB.block i hi)⟩
theorem BB.drew {a b:World} {g:Nat} (h:BB a b g):BB a b.drew g:=⟨h.os,h.tape,h.output,h.size,h.block⟩
theorem BB.drewN {a b:World} {g:Nat} (h:BB a b g) (n:Nat):BB a (b.drewN n) g:=⟨h.os,h.tape,h.output,h.size,h.block⟩
theorem BB.alloc {a b:World} {g:Nat} (h:BB a b g) (o:Obj):BB a (b.alloc o) g:=h.trans (BB.of_below (aoz (Zw _ _) o) g)
theorem BB.set {a b:World} {g:Nat} (h:BB a b g) (j:Nat) (u:Value):BB a (b.setCell ⟨g,j,none⟩ u) g:=
 ⟨h.os,h.tape,h.output,by simpa using h.size,fun i hi hg=>(Below.heap_setCell b ⟨g,j,none⟩ u i hg).trans (h.block i hi hg)⟩
theorem BB.new {a b:World} {g n:Nat} (h:BB a b g) (hn:a.heap.size<=n) (j:Nat) (u:Value):BB a (b.setCell ⟨n,j,none⟩ u) g:=
 ⟨h.os,h.tape,h.output,by simpa using h.size,fun i hi hg=>(Below.heap_setCell b ⟨n,j,none⟩ u i (by show i≠n;omega)).trans (h.block i hi hg)⟩
def gpN:Nat->Nat
 |0=>1
 |i+1=>xt 128 285 (gpN i)
def expAt:Nat->List Int
 |0=>List.replicate 256 0
 |i+1=>(expAt i).set i (gpN i:Int)
def logAt:Nat->List Int
 |0=>List.replicate 256 0
 |i+1=>(logAt i).set (gpN i) (i:Int)
theorem elz: ∀i,(expAt i).length=256
 |0=>List.length_replicate
 |i+1=>by rw [expAt,List.length_set,elz i]
theorem emz: ∀i,(logAt i).length=256
 |0=>List.length_replicate
 |i+1=>by rw [logAt,List.length_set,emz i]
theorem gpN_range: ∀i,i<256->1<=gpN i/\gpN i<256:=by decide+kernel
def freshF (wb p:Int):Array Value:= #[.int .i64 wb, .int .u32 p, .int .u32 0, .int .i32 0, .int .u32 0, .slice none 0 0, .slice none 0 0]
def readyF (wb p:Int) (a b:Nat):Array Value:= #[.int .i64 wb, .int .u32 p, .int .u32 1, .int .i32 0, .int .u32 0, .slice (some ⟨a,0,none⟩) 256 256, .slice (some ⟨b,0,none⟩) 256 256]
def Fd (W:World) (g:Nat) (wb p:Int) (S:Nat->Prop):Prop:=
 ¬S g/\(W.heap[g]?=some (.cells (freshF wb p) 172 (0,0))\/
  (wb=8/\p=285/\ ∃a b,W.heap[g]?=some (.cells (readyF wb p a b) 172 (0,0))/\W.heap[a]?=some (.cells (nums .i64 (expAt 255)).toArray 3 (0,0))/\W.heap[b]?=some (.cells (nums .i64 (logAt 255)).toArray 3 (0,0))/\ ¬S a/\ ¬S b))
theorem Fd.lt {W:World} {g:Nat} {wb p:Int} {S:Nat->Prop} (h:Fd W g wb p S):g<W.heap.size:=by
 obtain ⟨-,h|⟨-, -,a,b,h, -⟩⟩:=h
 ·exact a4z h
 ·exact a4z h
theorem Fd.move {W W1:World} {g:Nat} {wb p:Int} {S:Nat->Prop} (h:Fd W g wb p S) (hm: ∀k, ¬S k->k<W.heap.size->W1.heap[k]?=W.heap[k]?):Fd W1 g wb p S:=by
 obtain ⟨hg,h|⟨h8,hp,a,b,h,ha,hb,na,nb⟩⟩:=h
 ·exact ⟨hg, .inl ((hm g hg (a4z h)).trans h)⟩
 ·exact ⟨hg, .inr ⟨h8,hp,a,b,(hm g hg (a4z h)).trans h,(hm a na (a4z ha)).trans ha,(hm b nb (a4z hb)).trans hb,na,nb⟩⟩
theorem Fd.thin {W:World} {g:Nat} {wb p:Int} {S S':Nat->Prop} (h:Fd W g wb p S) (hs: ∀k,k<W.heap.size->S' k->S k):Fd W g wb p S':=by
 obtain ⟨hg,h|⟨h8,hp,a,b,h,ha,hb,na,nb⟩⟩:=h
 ·exact ⟨fun s=>hg (hs _ (a4z h) s), .inl h⟩
 ·exact ⟨fun s=>hg (hs _ (a4z h) s), .inr ⟨h8,hp,a,b,h,ha,hb,fun s=>na (hs _ (a4z ha) s),fun s=>nb (hs _ (a4z hb) s)⟩⟩
theorem Fd.more {W:World} {g:Nat} {wb p:Int} {S:Nat->Prop} (h:Fd W g wb p S):Fd W g wb p (fun k=>S k\/W.heap.size<=k):=h.thin (fun _ hk hs=>hs.resolve_right (by omega))
theorem Fd.below {W W1:World} {g:Nat} {wb p:Int} {S:Nat->Prop} (h:Fd W g wb p S) (hb:Below W.heap.size W W1):Fd W1 g wb p S:=h.move (fun k _ hk=>hb.block k hk)
theorem Fd.alloc {W:World} {g:Nat} {wb p:Int} {S:Nat->Prop} (h:Fd W g wb p S) (o:Obj):Fd (W.alloc o) g wb p S:=h.below (aoz (Zw _ _) o)
theorem Fd.drew {W:World} {g:Nat} {wb p:Int} {S:Nat->Prop} (h:Fd W g wb p S):Fd W.drew g wb p S:=h
theorem Fd.drewN {W:World} {g:Nat} {wb p:Int} {S:Nat->Prop} (h:Fd W g wb p S) (n:Nat):Fd (W.drewN n) g wb p S:=h
theorem Fd.set {W:World} {g:Nat} {wb p:Int} {S:Nat->Prop} (h:Fd W g wb p S) {q:Addr} (hq:S q.block) (u:Value):Fd (W.setCell q u) g wb p S:=
 h.move (fun k hk _=>Below.heap_setCell W q u k (fun e=>hk (e▸hq)))
theorem Fd.bits {W:World} {g:Nat} {wb p:Int} {S:Nat->Prop} (h:Fd W g wb p S):W.cell? ⟨g,0,none⟩=some (.int .i64 wb):=by
 obtain ⟨-,h|⟨-, -,a,b,h, -⟩⟩:=h
 ·exact (aez h 0).trans rfl
 ·exact (aez h 0).trans rfl
theorem Fd.poly {W:World} {g:Nat} {wb p:Int} {S:Nat->Prop} (h:Fd W g wb p S):W.cell? ⟨g,1,none⟩=some (.int .u32 p):=by
 obtain ⟨-,h|⟨-, -,a,b,h, -⟩⟩:=h
 ·exact (aez h 1).trans rfl
 ·exact (aez h 1).trans rfl
def fsize (wb:Int):Int:=if wb=8 then 256 else 65536
def inF (wb a:Int):Bool:=decide (0<=a)&&decide (a<fsize wb)
def allIn (wb:Int) (l:List Int):Bool:=l.all fun a=>decide (0<=a)&&decide (a<fsize wb)
def gmN (wb:Int) (a b:Nat):Nat:=if wb=8 then gm 7 285 a b else gm 15 69643 a b
def gmul (wb a b:Int):Int:=if inF wb a&&inF wb b then (gmN wb a.toNat b.toNat:Int) else 0
def gpwN (wb:Int) (a n:Nat):Nat:=if wb=8 then gp 7 285 a n else gp 15 69643 a n
def gpow (wb a n:Int):Int:=if inF wb a&&decide (0<=n) then (gpwN wb a.toNat n.toNat:Int) else 0
def ginv (wb a:Int):Int:=if inF wb a&&a !=0 then gpow wb a (fsize wb - 2) else 0
theorem log_at: ∀i,i<255->(logAt 255).getD (gpN i) 0=(i:Int):=by decide+kernel
theorem exp_at: ∀i,i<255->(expAt 255).getD i 0=(gpN i:Int):=by decide+kernel
theorem gpN_255:gpN 255=1:=by decide+kernel
theorem gpN_all: ∀a,a<256->a≠0-> ∃i,i<255/\gpN i=a:=by
 have h: ∀a,a<256->a≠0->gpN ((logAt 255).getD a 0).toNat=a/\((logAt 255).getD a 0).toNat<255:=by decide+kernel
 intro a ha h0;exact ⟨_,(h a ha h0).2,(h a ha h0).1⟩
theorem gpN_lt8: ∀i,gpN i<2^(7+1)
 |0=>by decide
 |i+1=>xt_lt 7 285 _ (gpN_lt8 i) gf8.toGf.hq gf8.toGf.hq1
theorem gf8_pow_mul: ∀(i j:Nat),j<256->gm 7 285 (gpN i) (gpN j)=gpN (i+j)
 |0,j,hj=>by
  rw [Nat.zero_add];exact gf8.toGf.dIz (gpN_range j hj).2
 |i+1,j,hj=>by
  have hl:=gpN_lt8 i;show gm 7 285 (xt (2^7) 285 (gpN i)) (gpN j)=_;rw [gf8.toGf.xt_left hl,gf8_pow_mul i j hj,show i+1+j=i+j+1 from by omega];rfl
theorem gpN_succ (i:Nat):gpN (i+1)=xt 128 285 (gpN i):=rfl
theorem gpN_period: ∀i,gpN (i+255)=gpN i
 |0=>gpN_255
 |i+1=>by
  rw [show i+1+255=(i+255)+1 from by omega,gpN_succ (i+255),gpN_succ i,gpN_period i]
theorem gpN_mod (i:Nat):gpN i=gpN (i % 255):=by
 have h: ∀k r,gpN (r+255*k)=gpN r:=by
  intro k
  induction k with
  |zero=>intro r;rfl
  |succ k ih=>intro r;rw [show r+255*(k+1)=(r+255*k)+255 from by omega,gpN_period,ih]
 have:=h (i / 255) (i % 255);rwa [Nat.mod_add_div] at this
theorem tab_mul (a b:Nat) (ha:a<256) (hb:b<256) (ha0:a≠0) (hb0:b≠0): ∃i j:Nat,i<255/\j<255/\(logAt 255).getD a 0=(i:Int)/\(logAt 255).getD b 0=(j:Int)/\gpN ((i+j) % 255)=gm 7 285 a b:=by
 obtain ⟨i,hi,rfl⟩:=gpN_all a ha ha0;obtain ⟨j,hj,rfl⟩:=gpN_all b hb hb0;exact ⟨i,j,hi,hj,log_at i hi,log_at j hj,by rw [<-gpN_mod,gf8_pow_mul i j (by omega)]⟩
theorem gmul_out {wb a b:Int} (h:(inF wb a&&inF wb b)=false):gmul wb a b=0:=by simp [gmul,h]
theorem dPz (wb b:Int):gmul wb 0 b=0:=by
 unfold gmul;split
 ·rw [Int.toNat_zero];unfold gmN;split<;>rw [Gf.zero_left] <;>rfl
 ·rfl
theorem ewz (wb a:Int):gmul wb a 0=0:=by
 unfold gmul;split
 ·rw [Int.toNat_zero];unfold gmN;split<;>rw [Gf.zero_right] <;>rfl
 ·rfl
theorem gmN_lt {wb:Int} (hw:wb=8\/wb=16) {a:Nat} (b:Nat) (ha:(a:Int)<fsize wb):(gmN wb a b:Int)<fsize wb:=by
 rcases hw with rfl|rfl
 ·have:=gf8.toGf.lt (a:=a) (b:=b) (by simp [fsize] at ha;omega);simp only [gmN,fsize,if_true];omega
 ·have:=gf16.toGf.lt (a:=a) (b:=b) (by simp [fsize] at ha;omega);simp only [gmN,fsize,show¬((16:Int)=8) by decide,if_false];omega
theorem bJz {wb:Int} (hw:wb=8\/wb=16) (a b:Int):0<=gmul wb a b/\gmul wb a b<fsize wb:=by
 have hz:(0:Int)<fsize wb:=by rcases hw with rfl|rfl<;>decide
 unfold gmul;split
 ·rename_i h
  simp only [Bool.and_eq_true,inF,decide_eq_true_eq] at h;exact ⟨by omega,gmN_lt hw _ (by omega)⟩
 ·omega
theorem gpN_step: ∀i,i<255->bOz.f 40 (gpN i:Int) 2 285=some (gpN (i+1):Int):=by decide+kernel
theorem gf_Size0 (g : Nat) (wb : Int) (W : World) (hc : W.cell? ⟨g, 0, none⟩ = some (.int .i64 wb)) (hw : wb = 8 \/ wb = 16) :
  Calls Tryz.prog 150 #[.pointer (some ⟨g,0,none⟩)] W fun e w'=>e= .returned (.int .i64 (fsize wb))/\Drawn0 W w':=by
 rcases hw with rfl|rfl
 all_goals
  go_enter Tryz.func150,Tryz.ntmps150;go_wp2;go_ret;exact ⟨by simp [fsize],Drawn0.refl _⟩
theorem gf_Size8 (g : Nat) (W : World) (hc : W.cell? ⟨g, 0, none⟩ = some (.int .i64 8)) :
  Calls Tryz.prog 150 #[.pointer (some ⟨g,0,none⟩)] W fun e w'=>e= .returned (.int .i64 256)/\Drawn0 W w':=gf_Size0 g 8 W hc (.inl rfl)
theorem make256 (W:World):(Instr.makeSlice 57 (.int .i64 256) (.int .i64 256)).run Tryz.prog W= .ok (.slice (some ⟨W.heap.size,0,none⟩) 256 256) (W.alloc (.cells (nums .i64 (expAt 0)).toArray 3)):=by
 obtain ⟨i,hi,he⟩:=Option.map_eq_some_iff.1 info3;injection he with hz he
 injection he with hs hb
 have h:=run_make (P:=Tryz.prog) W 57 3 i (.int .i64 0) Tryz.underlying57 hi hz .i64 .i64 256 256 (by omega) (by omega) (by rw [hb];omega) (by omega);rw [hs,show madeCells (Value.int .i64 0).cells ((256:Int).toNat*1)=(nums .i64 (expAt 0)).toArray from by kernel_rfl] at h;exact h
def RS (pl g:Nat) (W:World):Prop:=W.cell? ⟨pl,0,none⟩=some (.pointer (some ⟨g,0,none⟩))/\W.cell? ⟨g,0,none⟩=some (.int .i64 8)
theorem RS.of {pl g:Nat} {W:World} (h1:W.cell? ⟨pl,0,none⟩=some (.pointer (some ⟨g,0,none⟩))) (h2:W.cell? ⟨g,0,none⟩=some (.int .i64 8)):RS pl g W:=⟨h1,h2⟩
theorem RS.alloc {pl g:Nat} {W:World} (h:RS pl g W) (o:Obj):RS pl g (W.alloc o):=
 ⟨(World.cell?_alloc_past _ _ _ (Zj _ _ h.1)).trans h.1,(World.cell?_alloc_past _ _ _ (Zj _ _ h.2)).trans h.2⟩
theorem RS.drew {pl g:Nat} {W:World} (h:RS pl g W):RS pl g W.drew:=h
theorem RS.drewN {pl g:Nat} {W:World} (h:RS pl g W) (n:Nat):RS pl g (W.drewN n):=h
theorem RS.set {pl g:Nat} {W:World} (hne:g≠pl) (h:RS pl g W) (j:Nat) (hj:j≠0) (u:Value):RS pl g (W.setCell ⟨g,j,none⟩ u):=
 ⟨(World.cell?_setCell_other _ ⟨g,j,none⟩ ⟨pl,0,none⟩ _ (fun e=>hne (congrArg Addr.block e))).trans h.1,(World.cell?_setCell_other _ ⟨g,j,none⟩ ⟨g,0,none⟩ _ (fun e=>hj (congrArg Addr.off e))).trans h.2⟩
def R1 (W:World) (g pl:Nat) (d st se:Value) (w:World):Prop:= ∃a b:Nat,
 (∃cs,w.heap[g]?=some (.cells cs 172 (0,0))/\cs= #[.int .i64 8, .int .u32 285,d,st,se, .slice (some ⟨a,0,none⟩) 256 256, .slice (some ⟨b,0,none⟩) 256 256])/\
 w.heap[a]?=some (.cells (nums .i64 (expAt 0)).toArray 3 (0,0))/\w.heap[b]?=some (.cells (nums .i64 (expAt 0)).toArray 3 (0,0))/\w.heap[pl]?=some (.cells #[.pointer (some ⟨g,0,none⟩)] 72 (0,0))/\
 W.heap.size<=a/\W.heap.size<=b/\a≠b/\BB W w g
theorem R1.of {W w : World} {g pl a b : Nat} {d st se : Value} (h1 : ∃ cs, w.heap[g]? = some (.cells cs 172 (0, 0)) /\ cs = #[.int .i64 8, .int .u32 285, d, st, se, .slice (some ⟨a, 0, none⟩) 256 256, .slice (some ⟨b, 0, none⟩) 256 256])
  (h3:w.heap[a]?=some (.cells (nums .i64 (expAt 0)).toArray 3 (0,0))) (h4:w.heap[b]?=some (.cells (nums .i64 (expAt 0)).toArray 3 (0,0))) (h5:w.heap[pl]?=some (.cells #[.pointer (some ⟨g,0,none⟩)] 72 (0,0)))
  (h6:W.heap.size<=a) (h7:W.heap.size<=b) (h8:a≠b) (h9:BB W w g):R1 W g pl d st se w:=⟨a,b,h1,h3,h4,h5,h6,h7,h8,h9⟩
theorem cxz (w:World) (o:Obj) (n:Nat) (h:n=w.heap.size):(w.alloc o).heap[n]?=some o:=by rw [h];exact dvz w o
structure RL (W:World) (g pl:Nat) (d st se:Value) (a b k:Nat) (w:World):Prop where
 h1:w.heap[g]?=some (.cells #[.int .i64 8, .int .u32 285,d,st,se, .slice (some ⟨a,0,none⟩) 256 256, .slice (some ⟨b,0,none⟩) 256 256] 172 (0,0))
 h2:w.heap[a]?=some (.cells (nums .i64 (expAt k)).toArray 3 (0,0))
 h3:w.heap[b]?=some (.cells (nums .i64 (logAt k)).toArray 3 (0,0))
 h4:w.heap[pl]?=some (.cells #[.pointer (some ⟨g,0,none⟩)] 72 (0,0))
 h9:BB W w g
theorem RL.of {W w : World} {g pl a b : Nat} {d st se : Value} (h1 : w.heap[g]? = some (.cells #[.int .i64 8, .int .u32 285, d, st, se, .slice (some ⟨a, 0, none⟩) 256 256, .slice (some ⟨b, 0, none⟩) 256 256] 172 (0, 0)))
  (h2:w.heap[a]?=some (.cells (nums .i64 (expAt 0)).toArray 3 (0,0))) (h3:w.heap[b]?=some (.cells (nums .i64 (expAt 0)).toArray 3 (0,0))) (h4:w.heap[pl]?=some (.cells #[.pointer (some ⟨g,0,none⟩)] 72 (0,0))) (h9:BB W w g):RL W g pl d st se a b 0 w:=⟨h1,h2,h3,h4,h9⟩
theorem RL.drewN {W w:World} {g pl a b k:Nat} {d st se:Value} (h:RL W g pl d st se a b k w) (n:Nat):RL W g pl d st se a b k (w.drewN n):=⟨h.h1,h.h2,h.h3,h.h4,h.h9.drewN n⟩
theorem nums_cell {w:World} {g:Nat} {t:TypeId} {xs:List Int} (h:w.heap[g]?=some (.cells (nums .i64 xs).toArray t (0,0))) (j:Nat) (hj:j<xs.length): ∃z,w.cell? ⟨g,j,none⟩=some (.int .i64 z):=
 ⟨xs[j],(aez h j).trans (by simp [nums,hj])⟩
theorem drz {w:World} {g:Nat} {t:TypeId} {xs ys:List Int} (h:w.heap[g]?=some (.cells (nums .i64 xs).toArray t (0,0))) (j:Nat) (z:Int) (e:xs.set j z=ys):(w.setCell ⟨g,j,none⟩ (.int .i64 z)).heap[g]?=some (.cells (nums .i64 ys).toArray t (0,0)):=
 cCz h j _ (by subst e;simp [nums,List.map_set])
def RS3 (pl g a b:Nat) (W':World):Prop:=W'.cell? ⟨pl,0,none⟩=some (.pointer (some ⟨g,0,none⟩))/\W'.cell? ⟨g,5,none⟩=some (.slice (some ⟨a,0,none⟩) 256 256)/\W'.cell? ⟨g,6,none⟩=some (.slice (some ⟨b,0,none⟩) 256 256)
theorem RS3.drew {pl g a b:Nat} {W:World} (h:RS3 pl g a b W):RS3 pl g a b W.drew:=h
theorem RS3.drewN {pl g a b:Nat} {W:World} (h:RS3 pl g a b W) (n:Nat):RS3 pl g a b (W.drewN n):=h
theorem RS3.set {pl g a b c:Nat} {W:World} (hg:g≠c) (hp:pl≠c) (h:RS3 pl g a b W) (j:Nat) (u:Value):RS3 pl g a b (W.setCell ⟨c,j,none⟩ u):=
 ⟨(World.cell?_setCell_other _ ⟨c,j,none⟩ ⟨pl,0,none⟩ _ (fun e=>hp (congrArg Addr.block e).symm)).trans h.1,(World.cell?_setCell_other _ ⟨c,j,none⟩ ⟨g,5,none⟩ _ (fun e=>hg (congrArg Addr.block e).symm)).trans h.2.1,(World.cell?_setCell_other _ ⟨c,j,none⟩ ⟨g,6,none⟩ _ (fun e=>hg (congrArg Addr.block e).symm)).trans h.2.2⟩
theorem RL.step {W w : World} {g pl a b k q : Nat} {d st se : Value} (h : RL W g pl d st se a b k w) (hga : g ≠ a) (hgb : g ≠ b) (hab : a ≠ b) (hpa : pl ≠ a) (hpb : pl ≠ b) (e1 : (expAt k).set k (q : Int) = expAt (k + 1)) (e2 : (logAt k).set q (k : Int) = logAt (k + 1)) (hla : W.heap.size <= a) (hlb : W.heap.size <= b) :
  RL W g pl d st se a b (k+1) ((w.setCell ⟨a,k,none⟩ (.int .i64 q)).setCell ⟨b,q,none⟩ (.int .i64 k)):=
 ⟨byz (byz h.h1 hga _) hgb _,byz (drz h.h2 k _ e1) hab _,drz (byz h.h3 (Ne.symm hab) _) q _ e2,byz (byz h.h4 hpa _) hpb _,(h.h9.new hla _ _).new hlb _ _⟩
theorem RL.below {W w w1:World} {g pl a b k:Nat} {d st se:Value} (h:RL W g pl d st se a b k w) (hb:Below w.heap.size w w1):RL W g pl d st se a b k w1:=
 ⟨aLz h.h1 hb,aLz h.h2 hb,aLz h.h3 hb,aLz h.h4 hb,h.h9.trans (BB.of_below hb g)⟩
theorem gf_ready1.calls (g pl : Nat) (d : Value) (st se : Value) (W : World) (hne : g ≠ pl)
  (hg:W.heap[g]?=some (.cells #[.int .i64 8, .int .u32 285,d,st,se, .slice none 0 0, .slice none 0 0] 172 (0,0)))
  (hp:W.heap[pl]?=some (.cells #[.pointer (some ⟨g,0,none⟩)] 72 (0,0))):
  Calls Tryz.prog 179 #[.pointer (some ⟨pl,0,none⟩)] W fun e w'=>e= .returned (.tuple #[])/\ ∃a b,
   w'.heap[g]?=some (.cells #[.int .i64 8, .int .u32 285,d,st,se, .slice (some ⟨a,0,none⟩) 256 256, .slice (some ⟨b,0,none⟩) 256 256] 172 (0,0))/\
   w'.heap[a]?=some (.cells (nums .i64 (expAt 255)).toArray 3 (0,0))/\w'.heap[b]?=some (.cells (nums .i64 (logAt 255)).toArray 3 (0,0))/\
   W.heap.size<=a/\W.heap.size<=b/\BB W w' g:=by
 have hp0:W.cell? ⟨pl,0,none⟩=some (.pointer (some ⟨g,0,none⟩)):=(aez hp 0).trans rfl;have hg0:W.cell? ⟨g,0,none⟩=some (.int .i64 8):=(aez hg 0).trans rfl;have hg5:W.cell? ⟨g,5,none⟩=some (.slice none 0 0):=(aez hg 5).trans rfl;have hg6:W.cell? ⟨g,6,none⟩=some (.slice none 0 0):=(aez hg 6).trans rfl;have hf5:=boz hg 5;have hf6:=boz hg 6;have hmk:=make256;have hRS:RS pl g W:=Zb hp0 hg0;go_enter Tryz.func179,Tryz.ntmps179
 go_upto_region 0 with fail
 go_cut [] (fun wx=>R1 W g pl d st se wx)
 case first=>
  have n1:=World.new_ne W _ hp0;have n2:=World.new_ne W _ hg0;have hgl:g<W.heap.size:=a4z hg;have hge: ¬g=W.heap.size:=by omega
  have hge1: ¬g=W.heap.size+1:=by omega
  have n2':W.heap.size+1≠g:=by omega
  have c5: ∀(n:Nat) (X:Obj),((W.drewN n).alloc X).cell? ⟨g,5,none⟩=some (.slice none 0 0):=fun n X=>(World.cell?_alloc_past _ _ _ hgl).trans hg5
  have c6: ∀(n:Nat) (X:Obj),((W.drewN n).alloc X).cell? ⟨g,6,none⟩=some (.slice none 0 0):=fun n X=>(World.cell?_alloc_past _ _ _ hgl).trans hg6
  have f5: ∀(n:Nat) (X:Obj),((W.drewN n).alloc X).frozen? ⟨g,5,none⟩=false:=fun n X=>(World.frozen?_alloc_past _ _ _ hgl).trans hf5
  have f6: ∀(n:Nat) (X:Obj),((W.drewN n).alloc X).frozen? ⟨g,6,none⟩=false:=fun n X=>(World.frozen?_alloc_past _ _ _ hgl).trans hf6
  go_region_held3 (fun W'=>W'.cell? ⟨pl,0,none⟩=some (.pointer (some ⟨g,0,none⟩))/\W'.cell? ⟨g,0,none⟩=some (.int .i64 8)) (first|exact ⟨hp0,hg0⟩|(show RS pl g _;(repeat (first|with_reducible exact hRS|with_reducible refine RS.drewN ?_ _|with_reducible refine RS.drew ?_|with_reducible refine RS.alloc ?_ _|with_reducible refine RS.set hne ?_ 5 (by decide) _|with_reducible refine RS.set hne ?_ 6 (by decide) _)))) (first|(go_at_call 150;(refine (gf_Size8 g _ (by first|assumption|(go_simp;done))).mono ?_);rintro e W1 ⟨rfl,m1,rfl⟩))
  all_goals
   go_wp2_with fail
   go_meet
   refine R1.of ⟨_,by (repeat (with_reducible first|exact hg|apply ecz|apply bAz|apply c4z|apply cQz)),by rfl⟩ ?_ ?_ ?_ (by omega) (by omega) (by omega) ?_
   ·repeat (first|(with_reducible first|refine byz ?_ n2 _|refine byz ?_ n2' _|refine c4z ?_ _|refine cQz ?_)|(refine cxz _ _ _ ?_;(simp;done))|(with_reducible refine bAz ?_ _))
   ·repeat (first|(with_reducible first|refine byz ?_ n2 _|refine byz ?_ n2' _|refine c4z ?_ _|refine cQz ?_)|(refine cxz _ _ _ ?_;(simp;done))|(with_reducible refine bAz ?_ _))
   ·repeat (with_reducible first|exact hp|refine byz ?_ (Ne.symm hne) _|refine bAz ?_ _|refine c4z ?_ _|refine cQz ?_)
   ·repeat (with_reducible first|exact BB.refl _ _|refine BB.set ?_ _ _|refine BB.alloc ?_ _|refine BB.drewN ?_ _|refine BB.drew ?_)
 case rest=>
  obtain ⟨a,b,⟨_,hgb,rfl⟩,ha,hb,hpl,hla,hlb,hab,hBB⟩:=hcut;have hp1:wc.cell? ⟨pl,0,none⟩=some (.pointer (some ⟨g,0,none⟩)):=(aez hpl 0).trans rfl;have hg1:wc.cell? ⟨g,0,none⟩=some (.int .i64 8):=(aez hgb 0).trans rfl;have HL:=Za (RL.of hgb ha hb hpl (h9:=hBB));have hpl':pl<W.heap.size:=a4z hp;have hgl':g<W.heap.size:=a4z hg;clear hg hp hp0 hg0 hg5 hg6 hf5 hf6 hmk hRS hgb ha hb hpl hBB
  go_wp2_with (first|(go_at_call 150;(refine (gf_Size8 g _ (by first|assumption|(go_simp;done))).mono ?_);rintro e W1 ⟨rfl,m1,rfl⟩))
  go_loopw [1,20] (fun x i wr=> ∃k:Nat,k<=255/\x= .int .i64 (gpN k:Int)/\i= .int .i64 k/\Aside0 (RL W g pl d st se a b k wr)) (fun _ i _=>255 - (intOf i).toNat)
  case atStart=>exact ⟨0,by omega,rfl,rfl,⟨HL.out.drewN _⟩⟩
  clear hp1 hg1 HL;obtain ⟨k,hk,rfl,rfl,HL⟩:=hrel;by_cases hlt:k<255
  ·have HS:=Za (gpN_step k hlt);have HQ:=Za (show (logAt k).set (gpN k) (k:Int)=logAt (k+1) from rfl);obtain ⟨q3,q4⟩:=gpN_range (k+1) (by omega);obtain ⟨q',hq'⟩: ∃q',gpN (k+1)=q':=⟨_,rfl⟩;rw [hq'] at HS q3 q4;have HQ':=Za hq';clear hq';obtain ⟨q1,q2⟩:=gpN_range k (by omega);have HE:=Za (show (expAt k).set k (gpN k:Int)=expAt (k+1) from rfl);generalize gpN k=q at HS HQ HE q1 q2|-;have hga:g≠a:=by rintro rfl;omega
   have hgb:g≠b:=by rintro rfl;omega
   have hpa:pl≠a:=by omega
   have hpb:pl≠b:=by omega
   have hpl0:wr.cell? ⟨pl,0,none⟩=some (.pointer (some ⟨g,0,none⟩)):=(aez HL.out.h4 0).trans rfl;have hg1:wr.cell? ⟨g,1,none⟩=some (.int .u32 285):=(aez HL.out.h1 1).trans rfl;have hg5:wr.cell? ⟨g,5,none⟩=some (.slice (some ⟨a,0,none⟩) 256 256):=(aez HL.out.h1 5).trans rfl;have hg6:wr.cell? ⟨g,6,none⟩=some (.slice (some ⟨b,0,none⟩) 256 256):=(aez HL.out.h1 6).trans rfl;obtain ⟨z1,hz1⟩:=nums_cell HL.out.h2 k (by rw [elz];omega);obtain ⟨z2,hz2⟩:=nums_cell HL.out.h3 q (by rw [emz];omega);have hf1:=boz HL.out.h2 k;have hf2:=boz HL.out.h3 q;have i1:(0:Int)<=(k:Int):=by omega
   have i2:(k:Int)<256:=by omega
   have i3:(0:Int)<=(q:Int):=by omega
   have i4:(q:Int)<256:=by omega
   have hRS:RS3 pl g a b wr:=⟨hpl0,hg5,hg6⟩
   go_wp2_with fail
   go_region_held3 (fun W'=>W'.cell? ⟨pl,0,none⟩=some (.pointer (some ⟨g,0,none⟩))/\W'.cell? ⟨g,5,none⟩=some (.slice (some ⟨a,0,none⟩) 256 256)/\W'.cell? ⟨g,6,none⟩=some (.slice (some ⟨b,0,none⟩) 256 256)) (first|exact ⟨hpl0,hg5,hg6⟩|(show RS3 pl g a b _;(repeat (first|with_reducible exact hRS|with_reducible refine RS3.drewN ?_ _|with_reducible refine RS3.drew ?_|with_reducible refine RS3.set hga hpa ?_ _ _|with_reducible refine RS3.set hgb hpb ?_ _ _)))) (fail)
   have HN:=Za (RL.step HL.out hga hgb hab hpa hpb HE.out HQ.out hla hlb);clear HL hpl0 hg1 hg5 hg6 hf1 hf2 hz1 hz2;have hm0:=Za (HN.out.drewN 1);have hd1:((wr.setCell ⟨a,k,none⟩ (.int .i64 q)).setCell ⟨b,q,none⟩ (.int .i64 k)).drew=((wr.setCell ⟨a,k,none⟩ (.int .i64 q)).setCell ⟨b,q,none⟩ (.int .i64 k)).drewN 1:=rfl;rw [hd1];clear HN hd1;generalize ((wr.setCell ⟨a,k,none⟩ (.int .i64 q)).setCell ⟨b,q,none⟩ (.int .i64 k)).drewN 1=w2 at hm0|-;have hpl0:w2.cell? ⟨pl,0,none⟩=some (.pointer (some ⟨g,0,none⟩)):=(aez hm0.out.h4 0).trans rfl;have hg1:w2.cell? ⟨g,1,none⟩=some (.int .u32 285):=(aez hm0.out.h1 1).trans rfl
   go_wp2_with (first|(go_at_call 152;(refine (bOz.calls 40 _ _ _ _ _ HS.out).mono ?_);rintro e W1 ⟨rfl,hB⟩))
   exact ⟨⟨k+1,by omega,by rw [HQ'.out],by go_num,⟨hm0.out.below hB⟩⟩,by simp [intOf];omega⟩
  ·have:k=255:=by omega
   subst this;go_wp2
   go_end0
   exact ⟨rfl,a,b,HL.out.h1,HL.out.h2,HL.out.h3,hla,hlb,HL.out.h9⟩
end Go.Proofs.Xc
end
