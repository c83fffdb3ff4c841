-- Joined texts of this work (wip/tools/bundle.py).
import Derived.Test.YtpdakdcmahlghaaGreatBTrialTells18
set_option maxHeartbeats 8000000
set_option maxRecDepth 100000
set_option linter.unusedVariables false
set_option linter.unusedSimpArgs false
section
namespace Go.Proofs.Xc
open Go.RowKit Go.Proofs.Pw Go.Proofs.Pl Go.Proofs.Pm
attribute [local go_sem] bcz bdz bpz bqz a4z a5z bez bfz
def cyz.f (k:Nat) (l0:List (List Int)) (a1:Int):Option (Int×Int):=(amz.f k l0 a1).bind fun t1085=>(if (t1085.length:Int)=0 then (some (0,4)) else (if (t1085.length:Int)>1 then (some (0,6)) else (if 0<(t1085.length:Int) then (some (rd t1085 0,0)) else (none))))
theorem cyz.calls (k : Nat) (A0 : Option Addr) (c0 : Nat) (l0 : List (List Int)) (a1 : Int) (r1 : Int) (r2 : Int) (w : World) (hr0 : Kd.C (Kd.slice 5 (Kd.int .u8)) w A0 l0.length l0) (hc0 : l0.length <= c0) (h : cyz.f k l0 a1 = some (r1, r2)) :
  Calls Tryz.prog 37 #[.slice A0 l0.length c0, .int .i64 a1] w fun e w'=>e= .returned (.tuple #[.int .i64 r1, .int .i64 r2])/\Below w.heap.size w w':=by
 have HR0:=Za hr0;have HC0:=Za hc0;clear hr0 hc0;have HB:=Za (Zw w.heap.size w);have H:=h;clear h;unfold cyz.f at H;obtain ⟨t1085,A3,H⟩:=ob_ H
 (try dsimp only at H)
 by_cases c4:(t1085.length:Int)=0
 ·rw [Ya c4] at H;have c4b0:((t1085.length:Int)==0)=true:=Ye c4;have c4b1:((t1085.length:Int) !=0)=false:=Yc c4;clear c4;simp only [Zx,Zy] at H;obtain ⟨rfl,rfl⟩:=H;go_enter Tryz.func37,Tryz.ntmps37
  go_wp2_with (first|((with_reducible refine aaz (f:=40) rfl ?_);refine gl_ (some 9) Tryz.func40 #[.slice A0 l0.length c0, .int .i64 a1] ?_;(with_reducible refine (amz.calls k _ _ l0 a1 t1085 _ (xd_ HR0.out) (HC0.out) A3.out).mono ?_);rintro e w5 ⟨v1086,rfl,ho0,hb⟩;refine ⟨_,rfl,?_⟩;have n_:=Zb (Za (Kd.bAz ho0 (adz bl_))) (hs_ HB hb);clear HB;obtain ⟨HO1087,HB⟩:=n_;clear hb ho0;obtain ⟨Ao6,co6,eo6⟩:=Kd.a3z HO1087.out;subst eo6))
  go_ret2;exact ⟨er_,bl_⟩
 ·rw [Yb c4] at H;have c4b0:((t1085.length:Int)==0)=false:=Zq c4;have c4b1:((t1085.length:Int) !=0)=true:=Yd c4;have c4b2: ¬(t1085= []):=fun h_=>c4 (by rw [h_];rfl)
  by_cases c7:(t1085.length:Int)>1
  ·rw [Ya c7] at H;have c7b0:decide (1<(t1085.length:Int))=true:=Zd c7;have c7b1:decide (1<t1085.length)=true:=Zd (by omega);clear c7;simp only [Zx,Zy] at H;obtain ⟨rfl,rfl⟩:=H;go_enter Tryz.func37,Tryz.ntmps37
   go_wp2_with (first|((with_reducible refine aaz (f:=40) rfl ?_);refine gl_ (some 9) Tryz.func40 #[.slice A0 l0.length c0, .int .i64 a1] ?_;(with_reducible refine (amz.calls k _ _ l0 a1 t1085 _ (xd_ HR0.out) (HC0.out) A3.out).mono ?_);rintro e w8 ⟨v1086,rfl,ho0,hb⟩;refine ⟨_,rfl,?_⟩;have n_:=Zb (Za (Kd.bAz ho0 (adz bl_))) (hs_ HB hb);clear HB;obtain ⟨HO1087,HB⟩:=n_;clear hb ho0;obtain ⟨Ao9,co9,eo9⟩:=Kd.a3z HO1087.out;subst eo9))
   go_ret2;exact ⟨er_,bl_⟩
  ·rw [Yb c7] at H;have c7b0:decide (1<(t1085.length:Int))=false:=Ze c7;have c7b1:decide (1<t1085.length)=false:=Ze (by omega);clear c7;by_cases c10:0<(t1085.length:Int)
   ·rw [Ya c10] at H;have c10b0:=Zd c10;have c10b1:decide (0<t1085.length)=true:=Zd (by omega);clear c10;simp only [Zx,Zy] at H;obtain ⟨rfl,rfl⟩:=H;go_enter Tryz.func37,Tryz.ntmps37
    go_wp2_with (first|((with_reducible refine aaz (f:=40) rfl ?_);refine gl_ (some 9) Tryz.func40 #[.slice A0 l0.length c0, .int .i64 a1] ?_;(with_reducible refine (amz.calls k _ _ l0 a1 t1085 _ (xd_ HR0.out) (HC0.out) A3.out).mono ?_);rintro e w11 ⟨v1086,rfl,ho0,hb⟩;refine ⟨_,rfl,?_⟩;have n_:=Zb (Za (Kd.bAz ho0 (adz bl_))) (hs_ HB hb);clear HB;obtain ⟨HO1087,HB⟩:=n_;clear hb ho0;obtain ⟨Ao12,co12,eo12⟩:=Kd.a3z HO1087.out;subst eo12;have p1088:0<=(0:Int):=(by omega);have q1088:0<(t1085.length:Int):=Zc as_;obtain ⟨_,e1088,hx1088_0⟩:=Kd.boz (Kd.aPz HO1087.out).2.2 0 p1088 q1088;cases e1088;have qi1088:(0<t1085.length)=True:=Zz (by omega);(try rw [show ((0:Int)).toNat=0 from rfl] at hx1088_0);(try rw [Addr.add_zero'] at hx1088_0);replace p1088:=Zz p1088;replace q1088:=Zz q1088))
    go_ret2;exact ⟨er_,bl_⟩
   ·rw [Yb c10] at H;exact Yf H (by simp)
def btz.l0:Nat->List Int->List Int->Int->Option (Bool)
 |0,_,_,_=>none
 |k+1,x0,x1,x5=>if x5<(x0.length:Int) then (if 0<=x5 then (if x5<(x1.length:Int) then (if (rd x0 x5)=(rd x1 x5) then (btz.l0 k x0 x1 (wrap64 (x5+1))) else (some false)) else (none)) else (none)) else (some true)
def btz.f (k:Nat) (l0:List Int) (l1:List Int):Option (Bool):=if (l0.length:Int)=(l1.length:Int) then (btz.l0 k l0 l1 0) else (some false)
theorem btz.calls (k : Nat) (A0 : Option Addr) (c0 : Nat) (l0 : List Int) (A1 : Option Addr) (c1 : Nat) (l1 : List Int) (r : Bool) (w : World) (hr0 : Kd.C (Kd.int .i64) w A0 l0.length l0) (hc0 : l0.length <= c0) (hr1 : Kd.C (Kd.int .i64) w A1 l1.length l1) (hc1 : l1.length <= c1) (h : btz.f k l0 l1 = some r) :
  Calls Tryz.prog 38 #[.slice A0 l0.length c0, .slice A1 l1.length c1] w fun e w'=>e= .returned (.bool r)/\Drawn0 w w':=by
 have HR0:=Za hr0;have HC0:=Za hc0;clear hr0 hc0;have HR1:=Za hr1;have HC1:=Za hc1;clear hr1 hc1;have H:=h;clear h;unfold btz.f at H;by_cases c3:(l0.length:Int)=(l1.length:Int)
 rotate_left
 ·rw [Yb c3] at H;have c3b0:((l0.length:Int)==(l1.length:Int))=false:=Zq c3;have c3b1:((l0.length:Int) !=(l1.length:Int))=true:=Yd c3
  have c3b2:(l0.length==l1.length)=false:=by first|simpa using c3|(simp at c3|-;omega)
  obtain rfl:=Zn H;go_enter Tryz.func38,Tryz.ntmps38;go_wp2
  repeat (go_quiet (fail);try go_wp2)
  go_ret;exact ⟨sd_,dn_⟩
 rw [Ya c3] at H;have c3b0:((l0.length:Int)==(l1.length:Int))=true:=Ye c3;have c3b1:((l0.length:Int) !=(l1.length:Int))=false:=Yc c3
 have c3b2:(l0.length==l1.length)=true:=by first|simpa using c3|(simp at c3|-;omega)
 clear c3;have H':=Za H;clear H;go_enter Tryz.func38,Tryz.ntmps38;go_wp2
 repeat (go_quiet (fail);try go_wp2)
 go_loopg [5] k (fun kq v5 w'=> ∃(x5_1:Int),v5= .int .i64 x5_1/\Aside0 (btz.l0 kq l0 l1 x5_1=some r)/\Aside0 (kq<=k)/\Drawn0 w w')
 case atStart=>exact ⟨(0),sd_,H',⟨Zv _⟩,dn_⟩
 clear H';clear c3b0 c3b1 c3b2;obtain ⟨x5_1,rfl,HA,HK1,⟨m1,rfl⟩⟩:=hrel;rcases gk with _|k1
 ·exact Yf HA.out (by simp [btz.l0])
 have H:=HA.out;clear HA;simp only [btz.l0] at H;by_cases c4:x5_1<(l0.length:Int)
 rotate_left
 ·rw [Yb c4] at H;have c4b0:=Ze c4;clear c4;obtain rfl:=Zn H;go_wp2
  repeat (go_quiet (fail);try go_wp2)
  go_ret;exact ⟨sd_,dn_⟩
 rw [Ya c4] at H;have c4b0:=Zd c4;clear c4;by_cases c5:0<=x5_1
 rotate_left
 ·rw [Yb c5] at H;exact Yf H (by simp)
 rw [Ya c5] at H;have c5b0:=Zd c5;clear c5;by_cases c6:x5_1<(l1.length:Int)
 rotate_left
 ·rw [Yb c6] at H;exact Yf H (by simp)
 rw [Ya c6] at H;have c6b0:=Zd c6;clear c6;by_cases c7:(rd l0 x5_1)=(rd l1 x5_1)
 rotate_left
 ·rw [Yb c7] at H;have c7b0:((rd l0 x5_1)==(rd l1 x5_1))=false:=Zq c7;have c7b1:((rd l0 x5_1) !=(rd l1 x5_1))=true:=Yd c7;obtain rfl:=Zn H;have p1089:0<=(x5_1:Int):=Zc as_;have q1089:x5_1<(l0.length:Int):=Zc as_;obtain ⟨_,e1089,hx1089_0⟩:=Kd.boz HR0.out x5_1 p1089 q1089;cases e1089
  replace p1089:=Zz p1089;replace q1089:=Zz q1089;have p1090:0<=(x5_1:Int):=Zc as_;have q1090:x5_1<(l1.length:Int):=Zc as_;obtain ⟨_,e1090,hx1090_0⟩:=Kd.boz HR1.out x5_1 p1090 q1090;cases e1090
  replace p1090:=Zz p1090;replace q1090:=Zz q1090;go_wp2
  repeat (go_quiet (fail);try go_wp2)
  go_ret;exact ⟨sd_,dn_⟩
 rw [Ya c7] at H;have c7b0:((rd l0 x5_1)==(rd l1 x5_1))=true:=Ye c7;have c7b1:((rd l0 x5_1) !=(rd l1 x5_1))=false:=Yc c7;clear c7;have H':=Za H;clear H;have p1089:0<=(x5_1:Int):=Zc as_;have q1089:x5_1<(l0.length:Int):=Zc as_;obtain ⟨_,e1089,hx1089_0⟩:=Kd.boz HR0.out x5_1 p1089 q1089;cases e1089
 replace p1089:=Zz p1089;replace q1089:=Zz q1089;have p1090:0<=(x5_1:Int):=Zc as_;have q1090:x5_1<(l1.length:Int):=Zc as_;obtain ⟨_,e1090,hx1090_0⟩:=Kd.boz HR1.out x5_1 p1090 q1090;cases e1090
 replace p1090:=Zz p1090;replace q1090:=Zz q1090;go_wp2
 repeat (go_quiet (fail);try go_wp2)
 go_roundg k1
 case measure=>have:=HK1.out;omega
 case rel=>exact ⟨(wrap64 (x5_1+1)),sd_,H',⟨by have:=HK1.out;omega⟩,dn_⟩
section
variable {F : Fence} {n : Nat} {P : Program}
def SeqN {α:Type} (F:Fence) (n:Nat) (P:Program) (g:Nat) (lb:Array Value) (encs:α->Array Value) (Hd:Nat->α->World->Prop) (Kp:World->World->Prop) (S:List α->Prop) (M:Nat) (w:World):Prop:=
 ∀(l:Nat) (J:List α->World->Prop) (W:World),Below w.heap.size w W->(∀s A B,J s A->A.grownBy B none->J s B)->
  (∀pre x W1,J pre W1->Hd pre.length x W1->pre.length<M->YieldAt F (n - 1) P l (encs x) W1 fun e W'=>e= .returned (.bool true)/\J (pre++ [x]) W'/\Kp W1 W')->
  J [] W->CallsIn F n P g (#[.func (.yield l) #[] #[]] ++lb) W fun e W'=>(∃v,e= .returned v)/\ ∃xs,S xs/\J xs W'
def plainPostN {α:Type} (B:Nat) (Kp:World->World->Prop) (I:List α->World->Prop) (xs:List α) (W:World):Exit->Act->World->Prop
 | .normal,_,W'=>KeepsFrom B W W'/\Kp W W'/\I xs W'
 |_,_,_=>False
theorem wpIn_range_nth {α : Type} {g : Operand} {ps : Array Tmp} {assign body : Code} {Q : Exit -> Act -> World -> Prop} {a : Act} {w : World}
  (hro:F.round=none) (h1:1<=n) {gf:Nat} {lb:Array Value} (hg:a.eval g= .func (.func gf) #[] lb) (hFg:F.fn gf) (eg: ∀args w,(callFunc gf args).run P w= .ok (.enter gf args) w)
  {encs:α->Array Value} {Hd:Nat->α->World->Prop} {Kp:World->World->Prop} {S:List α->Prop} {M:Nat} {w0:World} (hseq:SeqN F (n - 1) P gf lb encs Hd Kp S M w0)
  (hKt: ∀ {A B C:World},Kp A B->Kp B C->Kp A C) (hKb: ∀(W:World) (l:Nat) (o o':Obj),w.heap.size<=l->W.heap[l]?=some o->o.isCells=false->Kp W (W.putObj l o')) (hb0:Below w0.heap.size w0 w) (hps: ∀x,(encs x).size=ps.size)
  (I:List α->World->Prop) (hI:OwnFrom w.heap.size I) (hHd: ∀m x,OwnFrom w.heap.size (fun (_:Unit) W=>Hd m x W)) (h0:I [] w) (a₁:α->Act)
  (hassign: ∀(l:Nat) (x:α) (W:World) (K:Act->World->Prop),K (a₁ x) W->
   assign.wpIn (F.inRound l) (n - 1 - 1) P (Exit.then K (fun _ _ _=>False)) { tmps:=(ps.zip (encs x)).foldl (fun t (p,v)=>t.setIfInBounds p v) a.tmps,defers:= [] } W)
  (hbody: ∀(l:Nat) (pre:List α) (x:α) (W:World),I pre W->Hd pre.length x W->pre.length<M->body.wpIn (F.inRound l) (n - 1 - 1) P (plainPostN w.heap.size Kp I (pre++ [x]) W) (a₁ x) W)
  (hdone: ∀(D:Nat) (xs:List α) (W:World),w.heap.size<=D->S xs->I xs W->W.heap[D]?=some (.deferred (some []))->Q .normal { a with defers:= { target:= .collected D,args:= #[] } ::a.defers } W):
  (Code.rangeFunc g ps assign body).wpIn F n P Q a w:=by
 refine wpIn_rangeFunc fun fn hfn=> ?_
 rw [hro];obtain ⟨L,hL⟩: ∃L:LoopState->Option Code->Loop,L=fun st pe=> { state:=st,pending:=pe,fn,tmps:=a.tmps,params:=ps,assign,body,defers:=w.heap.size } :=⟨_,rfl⟩
 obtain ⟨V,hV⟩: ∃V,(w.alloc (.deferred (some []))).alloc (.loop (L .ready none))=V:=⟨_,rfl⟩
 have vl:V.heap[w.heap.size+1]?=some (.loop (L .ready none)):=by
  rw [<-hV];have:=World.alloc_heap_new (w.alloc (.deferred (some []))) (.loop (L .ready none));rwa [World.size_alloc] at this
 have vd:V.heap[w.heap.size]?=some (.deferred (some [])):=by
  rw [<-hV];exact (Below.heap_alloc _ _ _ (by simp)).trans (World.alloc_heap_new w _)
 refine ⟨w.heap.size+1, [{ target:= .collected w.heap.size,args:= #[] }],V, { target:= .fn (.func gf) lb,args:= #[.func (.yield (w.heap.size+1)) #[] #[]] },V,gf,
  #[.func (.yield (w.heap.size + 1)) #[] #[]] ++ lb, V, by rw [<- hV, hL]; exact run_enterLoop_outer _ _ _ _ _, by simp only [resolve, hg]; simp [go_sem], ?_, by simp [invoke, go_sem, eg], fun _ => h1, ?_⟩
 ·intro f' hf';simp [Target.leads] at hf';subst hf';exact hFg
 refine (hseq (w.heap.size+1) (fun pre W=>(I pre W/\w.heap.size+1<W.heap.size)/\W.heap[w.heap.size+1]?=some (.loop (L .ready none))/\W.heap[w.heap.size]?=some (.deferred (some []))) V ?_ ?_ ?_ ?_).mono ?_
 ·rw [<-hV];exact hb0.trans ((((Zw _ w).alloc (Zv _) _).alloc (by simp) _).mono hb0.size)
 ·rintro s A B ⟨⟨i1,i2⟩,i3,i4⟩ hgr;exact ⟨⟨hI s A B none i1 hgr (fun r e=>by cases e),Zp i2 hgr.size⟩,(hgr.block _ i2 (by simp)).trans i3,(hgr.block _ (by omega) (by simp)).trans i4⟩
 ·rintro pre x W ⟨⟨i1,i2⟩,i3,i4⟩ hx hlen;have hy:=run_yield (P:=P) (args:=encs x) i3 (by rw [hL];exact hps x);rw [hL] at hy;refine ⟨fn,_,assign,body,hy,roundIn_of_wpIn hfn (hassign _ x W _ ?_)⟩;refine ⟨_,run_beginRound i3 (by rw [hL]),?_⟩;have l2:(W.putObj (w.heap.size+1) (.loop { L .ready none with state:= .busy })).heap[w.heap.size+1]?=some (.loop { L .ready none with state:= .busy }):=World.putObj_heap_same i2;have d2:(W.putObj (w.heap.size+1) (.loop { L .ready none with state:= .busy })).heap[w.heap.size]?=some (.deferred (some [])):=(World.putObj_heap_other (by omega)).trans i4;have k2:Kp W (W.putObj (w.heap.size+1) (.loop { L .ready none with state:= .busy })):=hKb _ _ _ _ (by omega) i3 rfl;refine wpIn_mono (hbody _ pre x _ (hI.putObj _ i1 (by omega) i3 rfl) ((hHd _ x).putObj (s:=()) _ hx (by omega) i3 rfl) hlen) ?_;rintro e a3 W3 hp
  cases e with
  |normal=>
   obtain ⟨q1,q2,q3⟩:=hp;have l3:=q1.same _ _ (by omega) l2 rfl;have d3:=q1.same _ _ (Zv _) d2 rfl;have hr:=run_endRound (P:=P) none l3;have hlt:=(Array.getElem?_eq_some_iff.1 l3).1;refine ⟨_,_,hr,rfl,⟨⟨hI.putObj _ q3 (by omega) l3 rfl,Zp hlt (grownBy_putObj' _ _ _).size⟩,?_,(World.putObj_heap_other (by omega)).trans d3⟩,hKt (hKt k2 q2) (hKb _ _ _ _ (by omega) l3 rfl)⟩;rw [World.putObj_heap_same hlt,hL];rfl
  |ret=>exact hp.elim
  |exit id=>exact hp.elim
  |goto t=>exact hp.elim
  |panic ch=>exact hp.elim
  |outgrown=>exact hp.elim
 ·refine ⟨⟨?_,?_⟩,vl,vd⟩
  ·rw [<-hV];exact hI.alloc _ (hI.alloc _ h0)
  ·rw [<-hV];simp
 ·rintro e W2 ⟨⟨v,rfl⟩,xs,hS,⟨i1,i2⟩,i3,i4⟩;exact ⟨none,_,by have:=run_endLoop (P:=P) i3 (by rw [hL];simp);rw [hL] at this;exact this,hdone _ xs _ (Zv _) hS (hI.putObj _ i1 (by omega) i3 rfl) ((World.putObj_heap_other (by omega)).trans i4)⟩
end
end Go.Proofs.Xc
end
section
namespace Go.Proofs.Xc
open Go.RowKit Go.Proofs.Pw Go.Proofs.Pl Go.Proofs.Pm
attribute [local go_sem] bcz bdz bpz bqz a4z a5z bez bfz
attribute [local go_sem] Oper.semAt_some
def four4 (n:Int):List Int:= [n / 256 / 256 / 256 % 256,n / 256 / 256 % 256,n / 256 % 256,n % 256]
def laidL (ahead:Nat) (b:List Int):List Int:=(four4 (b.length:Int)).drop (4 - ahead)++b
def KpC (ex:Nat->Prop) (W W':World):Prop:=W.heap.size<=W'.heap.size/\ ∀(k:Nat) (o:Obj),W.heap[k]?=some o->o.isCells=true-> ¬ex k->W'.heap[k]?=some o
theorem KpC.trans {ex:Nat->Prop} {A B C:World} (h:KpC ex A B) (k:KpC ex B C):KpC ex A C:=⟨Zt h.1 k.1,fun i o hi ho he=>k.2 i o (h.2 i o hi ho he) ho he⟩
theorem KpC.refl (ex:Nat->Prop) (A:World):KpC ex A A:=⟨Zv _,fun _ _ h _ _=>h⟩
theorem KpC.of_below {ex:Nat->Prop} {A B:World} (h:Below A.heap.size A B):KpC ex A B:=⟨h.size,fun k o hk _ _=>(h.block k (a8z hk)).trans hk⟩
def ItN (all:List Int) (m:Nat) (x:Nat×Int) (_:World):Prop:=x.1=m/\all[m]?=some x.2
theorem laid.calls (ahead:Int) (A:Option Addr) (n c:Nat) (W:World):Calls Tryz.prog 90 #[.int .i64 ahead, .slice A n c] W fun e w'=>e= .returned (.func (.func 134) #[] #[.pointer (some ⟨W.heap.size+1,0,none⟩), .pointer (some ⟨W.heap.size,0,none⟩)])/\w'=(W.alloc (.cells #[.int .i64 ahead] 3)).alloc (.cells #[.slice A n c] 34):=by
 have hmf: ∀(fn:Fn) (first cap:Array Value) (w:World),(Instr.makeFunc fn first cap).run Tryz.prog w= .ok (.func fn first cap) w:=fun _ _ _ _=>rfl
 go_enter Tryz.func90,Tryz.ntmps90;go_wp2;go_ret;exact ⟨by simp,rfl⟩
theorem C_numsK {k:IntKind} {w:World} {g:Nat} {t:TypeId} {xs:List Int} (h:w.heap[g]?=some (.cells (nums k xs).toArray t (0,0))) (hl:xs.length<=9223372036854775807):Kd.C (Kd.int k) w (some ⟨g,0,none⟩) xs.length xs:=by
 refine ⟨rfl,hl,fun _=>⟨_,rfl,fun j p hp=>⟨[.int k p],rfl,rfl,fun i u hu=> ?_⟩⟩⟩;obtain ⟨hj,rfl⟩:=Zk hp
 cases i with
 |succ i=>simp at hu
 |zero=>
  obtain rfl:Value.int k xs[j] =u:=by simpa using hu
  have e:(⟨g,0,none⟩:Addr).add (j*(Kd.int k).sz+0)=⟨g,j,none⟩:=by
   show (⟨g,0,none⟩:Addr).add (j*1+0)=_;unfold Addr.add;split<;>simp_all
  rw [e,abz h j];simp [nums,hj]
theorem C_twoB {w:World} {g cx cy:Nat} {X Y:Option Addr} {x y:List Int} (h:w.heap[g]?=some (.cells #[.slice X x.length cx, .slice Y y.length cy] 34 (0,0))) (h1:x.length<=cx) (h2:y.length<=cy) (hx:Kd.C (Kd.int .u8) w X x.length x) (hy:Kd.C (Kd.int .u8) w Y y.length y):Kd.C (Kd.slice 5 (Kd.int .u8)) w (some ⟨g,0,none⟩) [x,y].length [x,y] :=by
 have ad: ∀j,(⟨g,0,none⟩:Addr).add (j*1+0)=⟨g,j,none⟩:=fun j=>by
  unfold Addr.add;split<;>simp_all
 refine ⟨rfl,by simp,fun _=>⟨_,rfl,fun j p hp=> ?_⟩⟩
 match j,hp with
 |0,hp=>
  obtain rfl:x=p:=by simpa using hp
  refine ⟨[.slice X x.length cx],rfl,⟨X,cx,rfl,h1,hx⟩,fun i u hu=> ?_⟩
  cases i with
  |succ i=>simp at hu
  |zero=>
   obtain rfl:Value.slice X x.length cx=u:=by simpa using hu
   rw [show (⟨g,0,none⟩:Addr).add (0*(Kd.slice 5 (Kd.int .u8)).sz+0)=⟨g,0,none⟩ from ad 0,abz h 0];rfl
 |1,hp=>
  obtain rfl:y=p:=by simpa using hp
  refine ⟨[.slice Y y.length cy],rfl,⟨Y,cy,rfl,h2,hy⟩,fun i u hu=> ?_⟩
  cases i with
  |succ i=>simp at hu
  |zero=>
   obtain rfl:Value.slice Y y.length cy=u:=by simpa using hu
   rw [show (⟨g,0,none⟩:Addr).add (1*(Kd.slice 5 (Kd.int .u8)).sz+0)=⟨g,1,none⟩ from ad 1,abz h 1];rfl
 |j+2,hp=>simp at hp
theorem laid1_in0 (l b1 b2 n c : Nat) (ex : Nat -> Prop) (A : Option Addr) (b : List Int) (W : World) (J : List (Nat × Int) -> World -> Prop)
  (hb:Kd.C (Kd.int .u8) W A b.length b) (hn:b.length=n) (hnc:n<=c) (hnn:n<=100000) (hB1:W.heap[b1]?=some (.cells #[.int .i64 0] 3 (0,0))) (hB2:W.heap[b2]?=some (.cells #[.slice A n c] 34 (0,0))) (hex: ∀k,ex k->k<W.heap.size) (hJ: ∀s X Y,J s X->X.grownBy Y none->J s Y)
  (hY: ∀pre x W1,J pre W1->ItN (laidL 0 b) pre.length x W1->pre.length<(laidL 0 b).length->YieldAt Fence.wide (7 - 1) Tryz.prog l #[.int .i64 (x.1:Int), .int .u8 x.2] W1 fun e W'=>e= .returned (.bool true)/\J (pre++ [x]) W'/\KpC ex W1 W') (hJ0:J [] W):
  CallsIn Fence.wide 7 Tryz.prog 134 #[.func (.yield l) #[] #[], .pointer (some ⟨b2,0,none⟩), .pointer (some ⟨b1,0,none⟩)] W fun e W'=>(∃v,e= .returned v)/\ ∃xs:List (Nat×Int),xs.map Prod.snd=laidL 0 b/\xs.length=(laidL 0 b).length/\J xs W':=by
 obtain ⟨all,hall⟩: ∃all,laidL 0 b=all:=⟨_,rfl⟩;have HAL0:=Za hall;rw [hall] at hY|-;clear hall;have hc1:W.cell? ⟨b1,0,none⟩=some (.int .i64 0):=(abz hB1 0).trans rfl;have hc2:W.cell? ⟨b2,0,none⟩=some (.slice A n c):=(abz hB2 0).trans rfl;have HB:=Za hb;have HN:=Za hn;have HEX:=Za hex;have HJ:=Za hJ;have HY:=Za hY;have HJ0:=Za hJ0;have HB1:=Za hB1;have HB2:=Za hB2;have n0:(0:Int)<=(n:Int):=by omega
 have d1:(0:Int)<=(n:Int) / 256:=by omega
 have d2:(0:Int)<=(n:Int) / 256 / 256:=by omega
 have d3:(0:Int)<=(n:Int) / 256 / 256 / 256:=by omega
 clear hb hn hex hJ hY hJ0 hB1 hB2;refine callsIn_of_wp Tryz.func134 rfl trivial ?_ rfl;simp only [Tryz.ntmps134,List.size_toArray,List.length_cons,List.length_nil,Nat.reduceAdd,Nat.reduceSub,Array.replicate_succ,Array.replicate_zero,List.push_toArray,List.append_toArray,List.nil_append,List.cons_append]
 gi_wp2
 have hf4:four4 (n:Int)= [(n:Int) / 256 / 256 / 256,(n:Int) / 256 / 256,(n:Int) / 256 % 256,(n:Int) % 256] :=by unfold four4;simp;omega
 have HF4:=Za hf4
 generalize (n:Int) / 256 / 256 / 256=f0 at *
 generalize (n:Int) / 256 / 256=f1 at *
 generalize (n:Int) / 256 % 256=f2 at *
 generalize (n:Int) % 256=f3 at *
 generalize (n:Int) / 256=f5 at *
 have HFB:=Za (heap_alloc_new W (.cells #[.int .u8 f0, .int .u8 f1, .int .u8 f2, .int .u8 f3] 43));have HBW:=Za (anz (Zw W.heap.size W) (.cells #[.int .u8 f0, .int .u8 f1, .int .u8 f2, .int .u8 f3] 43));have hz1:=World.size_alloc W (.cells #[.int .u8 f0, .int .u8 f1, .int .u8 f2, .int .u8 f3] 43);have HSZ:=Za hz1;clear hf4 d1 d2 d3 hz1;generalize W.alloc (.cells #[.int .u8 f0, .int .u8 f1, .int .u8 f2, .int .u8 f3] 43)=w1 at HFB HBW HSZ|-;obtain ⟨fb,hfb⟩: ∃fb,fb=W.heap.size:=⟨_,rfl⟩;have HFE:=Za hfb;rw [<-hfb] at HFB|-;clear hfb;have e1:w1.cell? ⟨b1,0,none⟩=some (.int .i64 0):=(abz (aBz HB1.out HBW.out) 0).trans rfl;have e2:w1.cell? ⟨b2,0,none⟩=some (.slice A n c):=(abz (aBz HB2.out HBW.out) 0).trans rfl;have hw4:wrap64 4=4:=by unfold wrap64;omega
 have hw0:wrap64 0=0:=by unfold wrap64;omega
 clear hc1 hc2
 have HALL:=Za (show [[],b].flatten=all by
  rw [<-HAL0.out];unfold laidL;rw [HN.out,HF4.out]
  simp)
 have HALN:=Za (show all.length=n+0 by rw [<-HALL.out];simp [HN.out];try omega);have hcc:=C_twoB (w:=(w1.alloc (.cells #[.slice (some ⟨fb,0,none⟩) 0 0, .slice A n c] 34)).drew) (g:=w1.heap.size) (x:= []) (y:=b) (X:=some ⟨fb,0,none⟩) (cx:=0) (Y:=A) (cy:=c) (by rw [HN.out];exact heap_alloc_new _ _) (by simp) (by rw [HN.out];exact hnc) ⟨rfl,by simp,fun h=>Yf h (by decide)⟩ (Kd.bDz (Kd.azz (Kd.azz HB.out HBW.out) (anz (Zw _ _) _)) 1);have HCON:=Za (concat_b.calls (some ⟨w1.heap.size,0,none⟩) 2 [[],b] (w1.alloc (.cells #[.slice (some ⟨fb,0,none⟩) 0 0, .slice A n c] 34)).drew hcc (by simp) (by rw [HALL.out,HALN.out];omega));rw [HALL.out,show [[],b].length=2 from rfl] at HCON;clear hcc;refine (wpIn_wide (n:=7)).2 ?_;refine bPz (n:=8) (S:=fun w'=>w'.cell? ⟨b1,0,none⟩=some (.int .i64 0)/\w'.cell? ⟨b2,0,none⟩=some (.slice A n c)) (ds:= [5]) (bA 8 0) kr_ rfl rfl ⟨e1,e2⟩ (fun hHeld=> ?_);refine pu_ 7 32 128 ?_
 refine tk_ 0 25 129 hHeld ?_;refine pu_ 1 26 131 ?_;refine pu_ 2 27 135 ?_;refine tk_ 3 28 143 hHeld ?_;refine one_ (i:=4) (N:=some 29) (bA 8 159) rfl rfl kr_ (by decide) (fun K hK=> ?_);refine cpz (w1:= ?_) (v:= ?_) (by rfl) rfl ?_ ?_;rotate_left 2
 ·go_simp;constructor
  ·rfl
  ·rfl
 refine hK.out _ _ ⟨(World.cell?_alloc_past _ _ _ (Zj _ _ e1)).trans e1,(World.cell?_alloc_past _ _ _ (Zj _ _ e2)).trans e2⟩ (fun hHeld=> ?_);clear hK K;refine norm_ (a':= ?_) ?_ ?_;rotate_left
 ·show Act.put _ (some 29) _=_;simp only [Act.put,Zg,Zh,Zi,i64_w,i32_w];rfl
 refine last_ (i:=5) (N:=some 30) (bA 8 191) rfl rfl kr_ (by decide) (fun K hK=> ?_);refine goes_ Tryz.func135 kr_ rfl #[.slice (some ⟨w1.heap.size,0,none⟩) 2 2] (by rfl) rfl rfl am_ ?_
 with_reducible refine (HCON.out).mono ?_
 rintro e w4 ⟨v4,rfl,r1,r2⟩;refine ⟨_,rfl,?_⟩;obtain ⟨va,vc,rfl⟩:=Kd.a3z r1;have R1:=Za r1;have R2:=Za r2;clear r1 r2;refine hK.out _ _ ?_;clear hK K;refine norm_ (a':= ?_) ?_ ?_;rotate_left
 ·show Act.put _ (some 30) _=_;simp only [Act.put,Zg,Zh,Zi,i64_w,i32_w];rfl
 refine pu_ 6 31 255 ?_;refine done_ kr_ ?_;have HW4:=Za (show Below W.heap.size W w4 from HBW.out.trans ((show Below w1.heap.size w1 w4 from (show Below w1.heap.size w1 (w1.alloc (.cells #[.slice (some ⟨fb,0,none⟩) 0 0, .slice A n c] 34)).drew from cQz (anz (Zw _ _) _)).trans (R2.out.mono (by simp))).mono HBW.out.size));have hR1:=R1.out
 have HR4:=Za (show∀w5,KpC ex w4 w5->Kd.C (Kd.int .u8) w5 va all.length all from fun w5 hk=>(Kd.aPz (Kd.ddz (Kd.cgz rfl hR1) (fun k hk2=>by
  obtain ⟨cells,hc⟩:=Kd.R_typed hR1 k hk2.symm;have h1:=Kd.ciz hR1 k hk2.symm
  exact (hk.2 k _ hc rfl (fun e=>by have:=HEX.out k e;have h3:=HBW.out.size;simp at h1;omega)).trans hc.symm))).2.2)
 have HJ4:=Za (show J [] w4 from HJ.out _ W w4 HJ0.out ⟨HW4.out.os,HW4.out.tape,HW4.out.output,HW4.out.size,fun i hi _=>HW4.out.block i hi⟩);obtain ⟨N,hN⟩: ∃N,all.length=N:=⟨_,rfl⟩;have HNN:=Za hN;have hNb:N<=1000000:=by have:=HALN.out;omega
 rw [hN] at HR4 HY|-;clear hR1 hN e1 e2 hw4 hw0 HCON HALL HF4
 gi_wp2
 gi_loopw [32] (fun iv wr=> ∃(k:Nat) (pre:List (Nat×Int)),k<=N/\iv= .int .i64 (k:Int)/\Aside0 (pre.map Prod.snd=all.take k)/\Aside0 (J pre wr)/\Aside0 (KpC ex w4 wr)) (fun iv _=>N - (intOf iv).toNat)
 case atStart=>exact ⟨0, [],Nat.zero_le _,rfl,⟨rfl⟩,HJ4,⟨KpC.refl _ _⟩⟩
 clear HJ4;obtain ⟨w5,rfl⟩: ∃w',w'=wr:=⟨_,rfl⟩;obtain ⟨k,pre,hk,rfl,HP,HJP,HK⟩:=hrel;by_cases hlt:k<N
 ·obtain ⟨x,hx⟩: ∃x,all[k]?=some x:=⟨_,Zf (by have:=HNN.out;omega)⟩;obtain ⟨ad,rfl,hcx⟩:=cvz (HNN.out.symm▸HR4.out w5 HK.out) k x hx;have hpl:pre.length=k:=by have:=congrArg List.length HP.out;simp at this;have:=HNN.out;omega
  obtain ⟨fn,tmps,assign,body,hy,hR⟩:=HY.out pre (k,x) w5 HJP.out (by rw [hpl];exact ⟨rfl,hx⟩) (by omega);have HRR:=Za hR;have HP2:=Za (show (pre++ [(k,x)]).map Prod.snd=all.take (k+1) by rw [List.map_append,HP.out,List.take_add_one,hx];rfl);have k1:(0:Int)<=(k:Int):=by omega
  have k2:(k:Int)<(N:Int):=by omega
  dsimp only at hy;clear hR hx hpl
  gi_wp2
  refine HRR.out.mono ?_;rintro e w6 ⟨rfl,hJ3,hk3⟩;have HJ3:=Za hJ3;have HK3:=Za (HK.out.trans hk3);clear hy hJ3 hk3 hcx
  gi_wp2
  go_roundw
  case rel=>exact ⟨k+1,pre++ [(k,x)],by omega,by go_num,HP2,HJ3,HK3⟩
  case measure=>simp [intOf];omega
 ·obtain rfl:k=N:=by omega
  have HE:=Za (show pre.map Prod.snd=all by rw [HP.out,List.take_of_length_le (by rw [HNN.out];exact Zv _)])
  gi_wp2
  go_end0
  exact ⟨⟨_,rfl⟩,pre,HE.out,by rw [<-HE.out,List.length_map],HJP.out⟩
theorem laid1_in4 (l b1 b2 n c : Nat) (ex : Nat -> Prop) (A : Option Addr) (b : List Int) (W : World) (J : List (Nat × Int) -> World -> Prop)
  (hb:Kd.C (Kd.int .u8) W A b.length b) (hn:b.length=n) (hnc:n<=c) (hnn:n<=100000) (hB1:W.heap[b1]?=some (.cells #[.int .i64 4] 3 (0,0))) (hB2:W.heap[b2]?=some (.cells #[.slice A n c] 34 (0,0))) (hex: ∀k,ex k->k<W.heap.size) (hJ: ∀s X Y,J s X->X.grownBy Y none->J s Y)
  (hY: ∀pre x W1,J pre W1->ItN (laidL 4 b) pre.length x W1->pre.length<(laidL 4 b).length->YieldAt Fence.wide (7 - 1) Tryz.prog l #[.int .i64 (x.1:Int), .int .u8 x.2] W1 fun e W'=>e= .returned (.bool true)/\J (pre++ [x]) W'/\KpC ex W1 W') (hJ0:J [] W):
  CallsIn Fence.wide 7 Tryz.prog 134 #[.func (.yield l) #[] #[], .pointer (some ⟨b2,0,none⟩), .pointer (some ⟨b1,0,none⟩)] W fun e W'=>(∃v,e= .returned v)/\ ∃xs:List (Nat×Int),xs.map Prod.snd=laidL 4 b/\xs.length=(laidL 4 b).length/\J xs W':=by
 obtain ⟨all,hall⟩: ∃all,laidL 4 b=all:=⟨_,rfl⟩;have HAL0:=Za hall;rw [hall] at hY|-;clear hall;have hc1:W.cell? ⟨b1,0,none⟩=some (.int .i64 4):=(abz hB1 0).trans rfl;have hc2:W.cell? ⟨b2,0,none⟩=some (.slice A n c):=(abz hB2 0).trans rfl;have HB:=Za hb;have HN:=Za hn;have HEX:=Za hex;have HJ:=Za hJ;have HY:=Za hY;have HJ0:=Za hJ0;have HB1:=Za hB1;have HB2:=Za hB2;have n0:(0:Int)<=(n:Int):=by omega
 have d1:(0:Int)<=(n:Int) / 256:=by omega
 have d2:(0:Int)<=(n:Int) / 256 / 256:=by omega
 have d3:(0:Int)<=(n:Int) / 256 / 256 / 256:=by omega
 clear hb hn hex hJ hY hJ0 hB1 hB2;refine callsIn_of_wp Tryz.func134 rfl trivial ?_ rfl;simp only [Tryz.ntmps134,List.size_toArray,List.length_cons,List.length_nil,Nat.reduceAdd,Nat.reduceSub,Array.replicate_succ,Array.replicate_zero,List.push_toArray,List.append_toArray,List.nil_append,List.cons_append]
 gi_wp2
 have hf4:four4 (n:Int)= [(n:Int) / 256 / 256 / 256,(n:Int) / 256 / 256,(n:Int) / 256 % 256,(n:Int) % 256] :=by unfold four4;simp;omega
 have HF4:=Za hf4
 generalize (n:Int) / 256 / 256 / 256=f0 at *
 generalize (n:Int) / 256 / 256=f1 at *
 generalize (n:Int) / 256 % 256=f2 at *
 generalize (n:Int) % 256=f3 at *
 generalize (n:Int) / 256=f5 at *
 have HFB:=Za (heap_alloc_new W (.cells #[.int .u8 f0, .int .u8 f1, .int .u8 f2, .int .u8 f3] 43));have HBW:=Za (anz (Zw W.heap.size W) (.cells #[.int .u8 f0, .int .u8 f1, .int .u8 f2, .int .u8 f3] 43));have hz1:=World.size_alloc W (.cells #[.int .u8 f0, .int .u8 f1, .int .u8 f2, .int .u8 f3] 43);have HSZ:=Za hz1;clear hf4 d1 d2 d3 hz1;generalize W.alloc (.cells #[.int .u8 f0, .int .u8 f1, .int .u8 f2, .int .u8 f3] 43)=w1 at HFB HBW HSZ|-;obtain ⟨fb,hfb⟩: ∃fb,fb=W.heap.size:=⟨_,rfl⟩;have HFE:=Za hfb;rw [<-hfb] at HFB|-;clear hfb;have e1:w1.cell? ⟨b1,0,none⟩=some (.int .i64 4):=(abz (aBz HB1.out HBW.out) 0).trans rfl;have e2:w1.cell? ⟨b2,0,none⟩=some (.slice A n c):=(abz (aBz HB2.out HBW.out) 0).trans rfl;have hw4:wrap64 4=4:=by unfold wrap64;omega
 have hw0:wrap64 0=0:=by unfold wrap64;omega
 clear hc1 hc2
 have HALL:=Za (show [[f0,f1,f2,f3],b].flatten=all by
  rw [<-HAL0.out];unfold laidL;rw [HN.out,HF4.out]
  simp)
 have HALN:=Za (show all.length=n+4 by rw [<-HALL.out];simp [HN.out];try omega);have hcc:=C_twoB (w:=(w1.alloc (.cells #[.slice (some ⟨fb,0,none⟩) 4 4, .slice A n c] 34)).drew) (g:=w1.heap.size) (x:= [f0,f1,f2,f3]) (y:=b) (X:=some ⟨fb,0,none⟩) (cx:=4) (Y:=A) (cy:=c) (by rw [HN.out];exact heap_alloc_new _ _) (by simp) (by rw [HN.out];exact hnc) (C_numsK (k:= .u8) (xs:= [f0,f1,f2,f3]) (w:=(w1.alloc (.cells #[.slice (some ⟨fb,0,none⟩) 4 4, .slice A n c] 34)).drew) (aBz HFB.out (cQz (anz (Zw _ _) _))) (by simp)) (Kd.bDz (Kd.azz (Kd.azz HB.out HBW.out) (anz (Zw _ _) _)) 1);have HCON:=Za (concat_b.calls (some ⟨w1.heap.size,0,none⟩) 2 [[f0,f1,f2,f3],b] (w1.alloc (.cells #[.slice (some ⟨fb,0,none⟩) 4 4, .slice A n c] 34)).drew hcc (by simp) (by rw [HALL.out,HALN.out];omega));rw [HALL.out,show [[f0,f1,f2,f3],b].length=2 from rfl] at HCON;clear hcc;refine (wpIn_wide (n:=7)).2 ?_;refine bPz (n:=8) (S:=fun w'=>w'.cell? ⟨b1,0,none⟩=some (.int .i64 4)/\w'.cell? ⟨b2,0,none⟩=some (.slice A n c)) (ds:= [5]) (bA 8 0) kr_ rfl rfl ⟨e1,e2⟩ (fun hHeld=> ?_)
 refine pu_ 7 32 128 ?_;refine tk_ 0 25 129 hHeld ?_;refine pu_ 1 26 131 ?_;refine pu_ 2 27 135 ?_;refine tk_ 3 28 143 hHeld ?_;refine one_ (i:=4) (N:=some 29) (bA 8 159) rfl rfl kr_ (by decide) (fun K hK=> ?_);refine cpz (w1:= ?_) (v:= ?_) (by rfl) rfl ?_ ?_;rotate_left 2
 ·go_simp;constructor
  ·rfl
  ·rfl
 refine hK.out _ _ ⟨(World.cell?_alloc_past _ _ _ (Zj _ _ e1)).trans e1,(World.cell?_alloc_past _ _ _ (Zj _ _ e2)).trans e2⟩ (fun hHeld=> ?_);clear hK K;refine norm_ (a':= ?_) ?_ ?_;rotate_left
 ·show Act.put _ (some 29) _=_;simp only [Act.put,Zg,Zh,Zi,i64_w,i32_w];rfl
 refine last_ (i:=5) (N:=some 30) (bA 8 191) rfl rfl kr_ (by decide) (fun K hK=> ?_);refine goes_ Tryz.func135 kr_ rfl #[.slice (some ⟨w1.heap.size,0,none⟩) 2 2] (by rfl) rfl rfl am_ ?_
 with_reducible refine (HCON.out).mono ?_
 rintro e w4 ⟨v4,rfl,r1,r2⟩;refine ⟨_,rfl,?_⟩;obtain ⟨va,vc,rfl⟩:=Kd.a3z r1;have R1:=Za r1;have R2:=Za r2;clear r1 r2;refine hK.out _ _ ?_;clear hK K;refine norm_ (a':= ?_) ?_ ?_;rotate_left
 ·show Act.put _ (some 30) _=_;simp only [Act.put,Zg,Zh,Zi,i64_w,i32_w];rfl
 refine pu_ 6 31 255 ?_;refine done_ kr_ ?_;have HW4:=Za (show Below W.heap.size W w4 from HBW.out.trans ((show Below w1.heap.size w1 w4 from (show Below w1.heap.size w1 (w1.alloc (.cells #[.slice (some ⟨fb,0,none⟩) 4 4, .slice A n c] 34)).drew from cQz (anz (Zw _ _) _)).trans (R2.out.mono (by simp))).mono HBW.out.size));have hR1:=R1.out
 have HR4:=Za (show∀w5,KpC ex w4 w5->Kd.C (Kd.int .u8) w5 va all.length all from fun w5 hk=>(Kd.aPz (Kd.ddz (Kd.cgz rfl hR1) (fun k hk2=>by
  obtain ⟨cells,hc⟩:=Kd.R_typed hR1 k hk2.symm;have h1:=Kd.ciz hR1 k hk2.symm
  exact (hk.2 k _ hc rfl (fun e=>by have:=HEX.out k e;have h3:=HBW.out.size;simp at h1;omega)).trans hc.symm))).2.2)
 have HJ4:=Za (show J [] w4 from HJ.out _ W w4 HJ0.out ⟨HW4.out.os,HW4.out.tape,HW4.out.output,HW4.out.size,fun i hi _=>HW4.out.block i hi⟩);obtain ⟨N,hN⟩: ∃N,all.length=N:=⟨_,rfl⟩;have HNN:=Za hN;have hNb:N<=1000000:=by have:=HALN.out;omega
 rw [hN] at HR4 HY|-;clear hR1 hN e1 e2 hw4 hw0 HCON HALL HF4
 gi_wp2
 gi_loopw [32] (fun iv wr=> ∃(k:Nat) (pre:List (Nat×Int)),k<=N/\iv= .int .i64 (k:Int)/\Aside0 (pre.map Prod.snd=all.take k)/\Aside0 (J pre wr)/\Aside0 (KpC ex w4 wr)) (fun iv _=>N - (intOf iv).toNat)
 case atStart=>exact ⟨0, [],Nat.zero_le _,rfl,⟨rfl⟩,HJ4,⟨KpC.refl _ _⟩⟩
 clear HJ4;obtain ⟨w5,rfl⟩: ∃w',w'=wr:=⟨_,rfl⟩;obtain ⟨k,pre,hk,rfl,HP,HJP,HK⟩:=hrel;by_cases hlt:k<N
 ·obtain ⟨x,hx⟩: ∃x,all[k]?=some x:=⟨_,Zf (by have:=HNN.out;omega)⟩;obtain ⟨ad,rfl,hcx⟩:=cvz (HNN.out.symm▸HR4.out w5 HK.out) k x hx;have hpl:pre.length=k:=by have:=congrArg List.length HP.out;simp at this;have:=HNN.out;omega
  obtain ⟨fn,tmps,assign,body,hy,hR⟩:=HY.out pre (k,x) w5 HJP.out (by rw [hpl];exact ⟨rfl,hx⟩) (by omega);have HRR:=Za hR;have HP2:=Za (show (pre++ [(k,x)]).map Prod.snd=all.take (k+1) by rw [List.map_append,HP.out,List.take_add_one,hx];rfl);have k1:(0:Int)<=(k:Int):=by omega
  have k2:(k:Int)<(N:Int):=by omega
  dsimp only at hy;clear hR hx hpl
  gi_wp2
  refine HRR.out.mono ?_;rintro e w6 ⟨rfl,hJ3,hk3⟩;have HJ3:=Za hJ3;have HK3:=Za (HK.out.trans hk3);clear hy hJ3 hk3 hcx
  gi_wp2
  go_roundw
  case rel=>exact ⟨k+1,pre++ [(k,x)],by omega,by go_num,HP2,HJ3,HK3⟩
  case measure=>simp [intOf];omega
 ·obtain rfl:k=N:=by omega
  have HE:=Za (show pre.map Prod.snd=all by rw [HP.out,List.take_of_length_le (by rw [HNN.out];exact Zv _)])
  gi_wp2
  go_end0
  exact ⟨⟨_,rfl⟩,pre,HE.out,by rw [<-HE.out,List.length_map],HJP.out⟩
theorem laid_seq (ahead b1 b2 n c : Nat) (hah : ahead = 0 \/ ahead = 4) (ex : Nat -> Prop) (A : Option Addr) (b : List Int) (w : World)
  (hb:Kd.C (Kd.int .u8) w A b.length b) (hn:b.length=n) (hnc:n<=c) (hnn:n<=100000) (hB1:w.heap[b1]?=some (.cells #[.int .i64 (ahead:Int)] 3 (0,0))) (hB2:w.heap[b2]?=some (.cells #[.slice A n c] 34 (0,0))) (hex: ∀k,ex k->k<w.heap.size):
  SeqN Fence.wide 7 Tryz.prog 134 #[.pointer (some ⟨b2,0,none⟩), .pointer (some ⟨b1,0,none⟩)] (fun x:Nat×Int=> #[.int .i64 (x.1:Int), .int .u8 x.2]) (ItN (laidL ahead b)) (KpC ex) (fun xs=>xs.map Prod.snd=laidL ahead b/\xs.length=(laidL ahead b).length) (laidL ahead b).length w:=by
 intro l J W hW hJ hY hJ0;have h1:=aBz hB1 hW;have h2:=aBz hB2 hW;have h3:=Kd.azz hb hW;have h4: ∀k,ex k->k<W.heap.size:=fun k hk=>Zp (hex k hk) hW.size
 rcases hah with rfl|rfl
 ·refine (laid1_in0 l b1 b2 n c ex A b W J h3 hn hnc hnn h1 h2 h4 hJ hY hJ0).mono ?_;rintro e W' ⟨hv,xs,q1,q2,q3⟩;exact ⟨hv,xs,⟨q1,q2⟩,q3⟩
 ·refine (laid1_in4 l b1 b2 n c ex A b W J h3 hn hnc hnn h1 h2 h4 hJ hY hJ0).mono ?_;rintro e W' ⟨hv,xs,q1,q2,q3⟩;exact ⟨hv,xs,⟨q1,q2⟩,q3⟩
end Go.Proofs.Xc
end
section
namespace Go.Proofs.Xc
open Go.RowKit Go.Proofs.Pw Go.Proofs.Pl Go.Proofs.Pm
attribute [local go_sem] bcz bdz bpz bqz a4z a5z bez bfz
def regOnly (K:Act->World->Prop):Exit->Act->World->Prop
 | .normal,a,w=>K a w
 |_,_,_=>False
theorem regOnly_normal {K:Act->World->Prop} {a:Act} {w:World} (h:K a w):regOnly K .normal a w:=h
theorem regOnly_ {P:Program} {c:Code} {Q:Exit->Act->World->Prop} {a:Act} {w:World} (h:c.wp P (regOnly (Q .normal)) a w):c.wp P Q a w:=
 wp_mono h fun e a w h=>by
  cases e with
  |normal=>exact h
  |_=>exact h.elim
theorem S_new {e t : Nat} {k : IntKind} {W : World} {base o n cap : Nat} {ok : Nat -> Prop} {rows : List (List Int)} (h : Kd.S (dM e k) t W base ok (.slice (some ⟨o, 0, none⟩) n cap) rows) (hb : base <= W.heap.size) (hok : ∀ q, W.heap.size <= q -> ok q) (i : Nat) (hi : i < n) (xs : List Int) (hl : xs.length <= 1000000) :
  Kd.S (dM e k) t (((W.alloc (.cells (nums k xs).toArray e)).setCell ⟨o,i,none⟩ (.slice (some ⟨W.heap.size,0,none⟩) xs.length xs.length))) base ok (.slice (some ⟨o,0,none⟩) n cap) (rows.set i xs):=by
 have hlt:o<W.heap.size:=Kd.S_lt h o (by simp [Value.ownBlock]);have h1:Kd.S (dM e k) t (W.alloc (.cells (nums k xs).toArray e)) base (fun q=>ok q/\ ¬(q=W.heap.size)) (.slice (some ⟨o,0,none⟩) n cap) rows:=Kd.egz (Kd.cOz (Kd.bVz h) (fun q hq=>⟨hq.1,by have:=hq.2.2.1;omega⟩)) _;obtain ⟨oki,c,hcl,hM,hcc,hfr,hoki,hH⟩:=Kd.S_elem h1 ([] :List Int) (i:Int) (by omega) (by omega);obtain ⟨u,rfl,hu⟩:=hM;have hn0:(W.alloc (.cells (nums k xs).toArray e)).heap[W.heap.size]?=some (.cells (nums k xs).toArray e (0,0)):=heap_alloc_new _ _
 have hR:(Kd.int k).R e (W.alloc (.cells (nums k xs).toArray e)) base (fun q=>q=W.heap.size) (.slice (some ⟨W.heap.size,0,none⟩) xs.length xs.length) xs:=by
  have h2:(Kd.int k).R e (W.alloc (.cells (nums k xs).toArray e)) base (fun _=>True) (.slice (some ⟨W.heap.size,0,none⟩) xs.length xs.length) xs:=
   c6z ⟨by rw [nums_length,Nat.mul_one], .inr ⟨_,xs.length,_,rfl,hb,hn0,Zv _,by unfold maxLen;omega,by simp [nums_length],by simp;rw [List.take_of_length_le (by rw [nums_length];exact Zv _)]⟩⟩
  exact Kd.aSz (Kd.cgz rfl h2) (fun q hq=>by simpa [Value.ownBlock] using hq)
 have h3:=(Kd.S_seg hH (by omega) (by omega) (seg:= [.slice (some ⟨W.heap.size,0,none⟩) xs.length xs.length]) (j:=0) (Zv _) (x':=xs) (okp:=fun q=>q=W.heap.size) ⟨_,rfl,hR⟩ (fun q hq=> .inr hq) (fun q hq=>⟨hok q (by omega),by omega⟩)).1;rw [Zu,show (dM e k).sz=1 from rfl,Nat.mul_one,Nat.add_zero] at h3;exact h3
theorem S_put2 {e t : Nat} {k : IntKind} {W : World} {base o n cap : Nat} {ok : Nat -> Prop} {rows : List (List Int)} (h : Kd.S (dM e k) t W base ok (.slice (some ⟨o, 0, none⟩) n cap) rows) (i j : Nat) (row : List Int) (hr : rows[i]? = some row) (hj : j < row.length) (x : Int) :
  ∃g c y,W.cell? ⟨o,i,none⟩=some (.slice (some ⟨g,0,none⟩) row.length c)/\W.cell? ⟨g,j,none⟩=some (.int k y)/\W.frozen? ⟨g,j,none⟩=false/\ok g/\g≠o/\Kd.S (dM e k) t (W.setCell ⟨g,j,none⟩ (.int k x)) base ok (.slice (some ⟨o,0,none⟩) n cap) (rows.set i (row.set j x)):=by
 have hil:=(Zk hr).1;have hn:=(Kd.dSz h).1;obtain ⟨oki,c,hcl,hM,hcc,hoki,hback⟩:=Kd.S_borrow h ([] :List Int) (i:Int) (by omega) (by omega);rw [Zu,Zm,hr] at hM;obtain ⟨u,rfl,hu⟩:=hM;have hu':(Kd.int k).R e W base oki u row:=hu;obtain ⟨g,cg,rfl, -, -, -⟩:=Kd.dHz hu' (by omega);have hc0:=hcc 0 _ rfl;rw [Zu,show (dM e k).sz=1 from rfl,Nat.mul_one,Nat.add_zero] at hc0
 have e1:(⟨o,0,none⟩:Addr).add i=⟨o,i,none⟩:=by
  unfold Addr.add;split<;>simp_all
 rw [e1] at hc0;obtain ⟨hcell,hfroz⟩:=Kd.R_cell (0:Int) hu' (j:Int) (by omega) (by omega);rw [Zu] at hcell hfroz;have hgo:oki g:=hu'.1 g (by simp [Value.ownBlock]);obtain ⟨hp1,hp2⟩:=Kd.R_put hu' (j:Int) x;rw [Zu] at hp1 hp2
 have hS:=hback (x':=row.set j x) hp2 (fun q hq=>by
  injection hq with hq
  subst hq;exact hgo) (show (dM e k).M _ _ _ (row.set j x) [.slice (some ⟨g,0,none⟩) row.length cg] from ⟨_,rfl,hp1⟩)
 rw [Zu] at hS;exact ⟨g,cg,_,hc0,hcell,hfroz,(hoki g hgo).1,fun e=>(hoki g hgo).2 (by simp [Value.ownBlock,e]),hS⟩
theorem S_keepK {k:IntKind} {X Y:World} {base:Nat} {ok:Nat->Prop} {v:Value} {xs:List (List Int)} {e t:Nat} (h:Kd.S (dM e k) t X base ok v xs) (hm: ∀(q:Nat) (o:Obj),X.heap[q]?=some o->o.isCells=true->Y.heap[q]?=X.heap[q]?):Kd.S (dM e k) t Y base ok v xs:=by
 refine Kd.cOz (Kd.S_move (Kd.bVz h) (fun q hq=> ?_)) (fun q hq=>hq.1);obtain ⟨-, -,hlt,z, -,cells,hc⟩:=hq;exact hm q _ hc rfl
theorem make_bytes (n:Nat) (hn:n<=1000000) (W:World):(Instr.makeSlice 34 (.int .i64 (n:Int)) (.int .i64 (n:Int))).run Tryz.prog W= .ok (.slice (some ⟨W.heap.size,0,none⟩) n n) (W.alloc (.cells (nums .u8 (List.replicate n 0)).toArray 5)):=by
 have hinfo:(Tryz.prog.info? 5).map (fun i=>(i.zero,i.size,i.bytes))=some (some (.int .u8 0),1,1):=by kernel_rfl
 obtain ⟨i,hi,he⟩:=Option.map_eq_some_iff.1 hinfo;injection he with hz he
 injection he with hs hb
 have h:=run_make (P:=Tryz.prog) W 34 5 i (.int .u8 0) Tryz.underlying34 hi hz .i64 .i64 n n (by omega) (by omega) (by rw [hb];omega) (by omega);rw [hs,Zu,Nat.mul_one] at h;rw [h]
 have:madeCells (Value.int .u8 0).cells n=(nums .u8 (List.replicate n 0)).toArray:=by
  apply Array.ext'
  simp [madeCells,nums,Value.cells];apply List.ext_getElem
  ·simp
  ·intro i h1 h2;simp [Nat.mod_one]
 rw [this]
def madeTo (K size i:Nat):List (List Int):=List.replicate i (List.replicate size 0)++List.replicate (K - i) []
theorem madeTo_step (K size i:Nat) (hi:i<K):(madeTo K size i).set i (List.replicate size 0)=madeTo K size (i+1):=by
 unfold madeTo;rw [List.set_append_right _ _ (by simp),List.length_replicate,Nat.sub_self,show K - i=(K - (i+1))+1 by omega,List.replicate_succ,Zh,List.replicate_succ' (n:=i),List.append_assoc];rfl
theorem madeTo_zero (K size:Nat):madeTo K size 0=List.replicate K [] :=by simp [madeTo]
theorem madeTo_full (K size:Nat):madeTo K size K=List.replicate K (List.replicate size 0):=by simp [madeTo]
theorem S_cell {e t:Nat} {k:IntKind} {W:World} {base o n cap:Nat} {ok:Nat->Prop} {rows:List (List Int)} (h:Kd.S (dM e k) t W base ok (.slice (some ⟨o,0,none⟩) n cap) rows) (i:Nat) (hi:i<n): ∃v,W.cell? ⟨o,i,none⟩=some v/\W.frozen? ⟨o,i,none⟩=false:=by
 obtain ⟨oki,c,hcl,hM,hcc,hfr,hoki,hH⟩:=Kd.S_elem h ([] :List Int) (i:Int) (by omega) (by omega);obtain ⟨u,rfl,hu⟩:=hM;have h0:=hcc 0 _ rfl;have h1:=hfr 0;rw [Zu,show (dM e k).sz=1 from rfl,Nat.mul_one,Nat.add_zero] at h0 h1;exact ⟨_,h0,h1⟩
end Go.Proofs.Xc
end
section
namespace Go.Proofs.Xc
open Go.RowKit Go.Proofs.Pw Go.Proofs.Pl Go.Proofs.Pm
attribute [local go_sem] bcz bdz bpz bqz a4z a5z bez bfz
attribute [local go_sem] Oper.semAt_some
def bIz.fill (size:Nat):List Int->Nat->List (List Int)->Option (List (List Int))
 | [],_,rows=>some rows
 |c::cs,i,rows=>if i / size<rows.length then bIz.fill size cs (i+1) (rows.set (i / size) ((rows.getD (i / size) []).set (i % size) c)) else none
def bIz.f (k:Nat) (a0_0 a0_1 a0_2:Int) (l1:List Int):Option (List (List Int)×Int):=
 (a6z.f k a0_0 a0_1 a0_2 (l1.length:Int)).bind fun s=>if s.2=0 then (if 1<=a0_1 then (if a0_1<=1000 then (if 1<=s.1 then (if s.1<=100000 then (if l1.length<=100000 then
  (cEz.f a0_0 a0_1 a0_2).bind fun u=>(if u.2=0\/u.2=4 then (bIz.fill s.1.toNat (laidL u.2.toNat l1) 0 (List.replicate a0_1.toNat (List.replicate s.1.toNat 0))).bind fun r=>some (r,0) else none)
  else none) else none) else none) else none) else none) else some ([],s.2)
theorem bIz.bad (k : Nat) (a0_0 a0_1 a0_2 : Int) (A1 : Option Addr) (c1 : Nat) (l1 : List Int) (s1 s2 : Int) (w : World) (h : a6z.f k a0_0 a0_1 a0_2 (l1.length : Int) = some (s1, s2)) (hs : s2 ≠ 0) :
  Calls Tryz.prog 55 #[.agg #[.int .i64 a0_0, .int .i64 a0_1, .int .i64 a0_2], .slice A1 l1.length c1] w fun e w'=>e= .returned (.tuple #[.slice none 0 0, .int .i64 s2])/\Below w.heap.size w w':=by
 have HZ:=Za (fun w=>a6z.calls k a0_0 a0_1 a0_2 (l1.length:Int) s1 s2 w h);have hu:=Tryz.underlying23;have hb:(s2 !=0)=true:=by simpa using hs
 generalize l1.length=n at HZ|-;clear h hs;go_enter Tryz.func55,Tryz.ntmps55
 go_wp2_with fail
 refine (HZ.out _).mono ?_;rintro e w1 ⟨rfl,hB⟩;have HB:=Za (show Below w.heap.size w w1 from (anz (Zw _ _) _).trans (hB.mono (by simp)));clear hB;go_wp2;go_ret2;exact ⟨rfl,anz HB.out _⟩
theorem bIz.go (k : Nat) (a0_0 a0_2 : Int) (K size ahead n : Nat) (A1 : Option Addr) (c1 : Nat) (l1 : List Int) (u1 : Int) (res : List (List Int)) (w : World) (hr1 : Kd.C (Kd.int .u8) w A1 l1.length l1) (hc1 : n <= c1) (hn : l1.length = n) (hn2 : n <= 100000)
  (h:a6z.f k a0_0 (K:Int) a0_2 (n:Int)=some ((size:Int),0)) (hK:1<=K) (hK2:K<=1000) (hs:1<=size) (hs2:size<=100000) (hru:cEz.f a0_0 (K:Int) a0_2=some (u1,(ahead:Int))) (hah:ahead=0\/ahead=4)
  (hf:bIz.fill size (laidL ahead l1) 0 (List.replicate K (List.replicate size 0))=some res):
  Calls Tryz.prog 55 #[.agg #[.int .i64 a0_0, .int .i64 (K:Int), .int .i64 a0_2], .slice A1 n c1] w fun e w'=> ∃v,e= .returned (.tuple #[v, .int .i64 0])/\Kd.S (dM 5 .u8) 34 w' w.heap.size (fun _=>True) v res/\Below w.heap.size w w':=by
 have HZ:=Za (fun w=>a6z.calls k a0_0 (K:Int) a0_2 (n:Int) (size:Int) 0 w h);have HRU:=Za (fun w=>cEz.calls a0_0 (K:Int) a0_2 u1 (ahead:Int) w hru);have HR1:=Za hr1;have HN:=Za hn;have HF:=Za hf;have HAH:=Za hah;have hu:=Tryz.underlying23;have hbx:=heap_alloc_new w (.cells #[.int .i64 a0_0, .int .i64 (K:Int), .int .i64 a0_2] 23);have HBX:=Za hbx;have HB0:=Za (anz (Zw w.heap.size w) (.cells #[.int .i64 a0_0, .int .i64 (K:Int), .int .i64 a0_2] 23));clear h hru hr1 hn hf hah hbx;refine (callsIn_wide (n:=8)).1 (callsIn_of_wp_marks Tryz.func55 rfl trivial (wpIn_wide.2 ?_) rfl);simp only [Tryz.ntmps55,List.size_toArray,List.length_cons,List.length_nil,Nat.reduceAdd,Nat.reduceSub,Array.replicate_succ,Array.replicate_zero,List.push_toArray,List.append_toArray,List.nil_append,List.cons_append]
 go_wp2_with fail
 generalize w.alloc (.cells #[.int .i64 a0_0, .int .i64 (K:Int), .int .i64 a0_2] 23)=w0 at HBX HB0|-;refine (HZ.out w0).mono ?_;rintro e w1 ⟨rfl,hB1⟩;have HB1:=Za (HB0.out.trans (hB1.mono HB0.out.size));have HX1:=Za (aBz HBX.out hB1);have hcK:(w1.alloc (.cells #[.int .i64 (size:Int)] 3)).cell? ⟨w.heap.size,1,none⟩=some (.int .i64 (K:Int)):=(abz (aBz HX1.out (anz (Zw _ _) _)) 1).trans rfl;have HSB1:=Za (heap_alloc_new w1 (.cells #[.int .i64 (size:Int)] 3));have HB2:=Za (anz HB1.out (.cells #[.int .i64 (size:Int)] 3));have HX2:=Za (aBz HX1.out (anz (Zw _ _) (.cells #[.int .i64 (size:Int)] 3)));have HSBW:=Za (show w.heap.size<=w1.heap.size from HB1.out.size);have HBASE:=Za (show w.heap.size<=(w1.alloc (.cells #[.int .i64 (size:Int)] 3)).heap.size from HB2.out.size);clear hB1 HBX HB0 HZ HB1 HX1
 go_wp2_with ((with_reducible refine aMz (N:=26) rfl ?_);go_must (refine Kd.S_make (dM 5 .u8) (w0:=w) w.heap.size 34 rfl rfl 24 (.tmp 25) (.tmp 25) rfl (K:Int) rfl rfl Tryz.underlying24 (.slice none 0 0) 24 kr_ rfl (by decide) (by decide) ([] :List Int) (ok:=fun _=>True) (okp:=fun _=>True) ⟨_,rfl,Kd.R_nil _ _ _ _ _⟩ (fun _ h=>h) trivial (by omega) (by omega) HB2.out HBASE.out ?_);intro v2 w2 ho hb hg hat;rw [Zu] at ho;obtain ⟨o,cap,rfl, -, -, -⟩:=Kd.S_form ho (by rw [List.length_replicate];exact hK);have HO2:=Za ho;have HB3:=Za hb;have HG2:=Za hg;clear ho hb hg hat)
 rw [List.length_replicate] at HO2;obtain ⟨sb,hsb⟩: ∃sb,w1.heap.size=sb:=⟨_,rfl⟩;obtain ⟨lbx,hlbx⟩: ∃lbx,w2.heap.size=lbx:=⟨_,rfl⟩
 have hz2:sb<lbx:=by
  have h1:=HG2.out.size;simp at h1;omega
 have hwl:w.heap.size<sb:=by
  have h1:=a8z HX2.out;have h2:=HSBW.out
  have h3:w.heap.size≠w1.heap.size:=fun e=>by
   have h4:=HSB1.out;rw [<-e] at h4;rw [HX2.out] at h4;injection h4 with h4
   injection h4 with h5 h6
   exact Yf h6 (by decide)
  omega
 have HX3:=Za (show (w2.alloc (.cells #[.slice (some ⟨o,0,none⟩) K cap] 24)).heap[w.heap.size]?=some (.cells #[.int .i64 a0_0, .int .i64 (K:Int), .int .i64 a0_2] 23 (0,0)) from aBz ((HG2.out.block _ (a8z HX2.out) (by simp)).trans HX2.out) (anz (Zw _ _) _));have HSB3:=Za (show (w2.alloc (.cells #[.slice (some ⟨o,0,none⟩) K cap] 24)).heap[sb]?=some (.cells #[.int .i64 (size:Int)] 3 (0,0)) by rw [<-hsb];exact aBz ((HG2.out.block _ (a8z HSB1.out) (by simp)).trans HSB1.out) (anz (Zw _ _) _));have HLB3:=Za (show (w2.alloc (.cells #[.slice (some ⟨o,0,none⟩) K cap] 24)).heap[lbx]?=some (.cells #[.slice (some ⟨o,0,none⟩) K cap] 24 (0,0)) by rw [<-hlbx];exact heap_alloc_new _ _);have HO3:=Za (show Kd.S (dM 5 .u8) 34 (w2.alloc (.cells #[.slice (some ⟨o,0,none⟩) K cap] 24)) w.heap.size (fun _=>True) (.slice (some ⟨o,0,none⟩) K cap) (madeTo K size 0) by rw [madeTo_zero];exact Kd.egz HO2.out _);have HB4:=Za (anz HB3.out (.cells #[.slice (some ⟨o,0,none⟩) K cap] 24))
 rw [hsb,hlbx];have HZ2:=Za hz2;have HWL:=Za hwl;clear hsb hlbx HO2 HB3 HG2 HX2 HSB1 HB2 hcK HSBW HBASE hz2 hwl;generalize w2.alloc (.cells #[.slice (some ⟨o,0,none⟩) K cap] 24)=w3 at HX3 HSB3 HLB3 HO3 HB4|-;have hmk:=make_bytes size (by omega)
 go_loopw [29] (fun iv wr=> ∃i:Nat,i<=K/\iv= .int .i64 (i:Int)/\Aside0 (Kd.S (dM 5 .u8) 34 wr w.heap.size (fun _=>True) (.slice (some ⟨o,0,none⟩) K cap) (madeTo K size i))/\Aside0 (Below w.heap.size w wr)/\Aside0 (wr.heap[w.heap.size]?=some (.cells #[.int .i64 a0_0, .int .i64 (K:Int), .int .i64 a0_2] 23 (0,0)))/\Aside0 (wr.heap[sb]?=some (.cells #[.int .i64 (size:Int)] 3 (0,0)))/\Aside0 (wr.heap[lbx]?=some (.cells #[.slice (some ⟨o,0,none⟩) K cap] 24 (0,0)))) (fun iv _=>K - (intOf iv).toNat)
 case atStart=>exact ⟨0,Nat.zero_le _,rfl,HO3,HB4,HX3,HSB3,HLB3⟩
 clear HO3 HB4 HX3 HSB3 HLB3;obtain ⟨wq,rfl⟩: ∃w',w'=wr:=⟨_,rfl⟩;obtain ⟨i,hi,rfl,HO,HB,HX,HSB,HLB⟩:=hrel;by_cases hlt:i<K
 ·have e1:wq.cell? ⟨lbx,0,none⟩=some (.slice (some ⟨o,0,none⟩) K cap):=(abz HLB.out 0).trans rfl;have e2:wq.cell? ⟨sb,0,none⟩=some (.int .i64 (size:Int)):=(abz HSB.out 0).trans rfl;have HO5:=Za (S_new HO.out HB.out.size (fun _ _=>trivial) i hlt (List.replicate size 0) (by simp;omega));rw [List.length_replicate,madeTo_step K size i hlt] at HO5;obtain ⟨v0,hcv,hfv⟩:=S_cell (Kd.egz HO.out (.cells (nums .u8 (List.replicate size 0)).toArray 5)) i hlt
  have hol:o≠lbx/\o≠sb/\o≠w.heap.size:=by
   obtain ⟨cs,hcs⟩:=Kd.bQz HO.out o (by simp [Value.ownBlock]);refine ⟨?_,?_,?_⟩
   ·rintro rfl;rw [HLB.out] at hcs;injection hcs with hcs
    injection hcs with _ hcs
    exact Yf hcs (by decide)
   ·rintro rfl;rw [HSB.out] at hcs;injection hcs with hcs
    injection hcs with _ hcs
    exact Yf hcs (by decide)
   ·rintro rfl;rw [HX.out] at hcs;injection hcs with hcs
    injection hcs with _ hcs
    exact Yf hcs (by decide)
  have hbo:w.heap.size<=o:=Kd.dKz HO.out o (by simp [Value.ownBlock]);have HB5:=Za (czz (anz HB.out (.cells (nums .u8 (List.replicate size 0)).toArray 5)) hbo i (.slice (some ⟨wq.heap.size,0,none⟩) size size));have HX5:=Za (bFz (aBz HX.out (anz (Zw _ _) (.cells (nums .u8 (List.replicate size 0)).toArray 5))) (p:=⟨o,i,none⟩) (Ne.symm hol.2.2) (.slice (some ⟨wq.heap.size,0,none⟩) size size));have HSB5:=Za (bFz (aBz HSB.out (anz (Zw _ _) (.cells (nums .u8 (List.replicate size 0)).toArray 5))) (p:=⟨o,i,none⟩) (Ne.symm hol.2.1) (.slice (some ⟨wq.heap.size,0,none⟩) size size));have HLB5:=Za (bFz (aBz HLB.out (anz (Zw _ _) (.cells (nums .u8 (List.replicate size 0)).toArray 5))) (p:=⟨o,i,none⟩) (Ne.symm hol.1) (.slice (some ⟨wq.heap.size,0,none⟩) size size));have i1:(0:Int)<=(i:Int):=by omega
  have i2:(i:Int)<(K:Int):=by omega
  clear hol hbo
  go_wp2_with fail
  refine regOnly_ ?_;refine bPz (n:=6) (S:=fun w'=>w'.cell? ⟨lbx,0,none⟩=some (.slice (some ⟨o,0,none⟩) K cap)/\w'.cell? ⟨sb,0,none⟩=some (.int .i64 (size:Int))) (ds:= [5]) (bA 6 0) kr_ rfl rfl ⟨e1,e2⟩ (fun hHeld=> ?_);refine pu_ 1 33 2 ?_;refine tk_ 0 32 3 hHeld ?_;refine tk_ 2 34 7 hHeld ?_;refine one_ (i:=3) (N:=some 35) (bA 6 15) rfl rfl kr_ (by decide) (fun K hK=> ?_);refine cpz (w1:= ?_) (v:= ?_) (by rfl) rfl ?_ ?_;rotate_left 2
  ·go_simp;constructor
   ·rfl
   ·rfl
  refine hK.out _ _ ⟨(World.cell?_alloc_past _ _ _ (Zj _ _ e1)).trans e1,(World.cell?_alloc_past _ _ _ (Zj _ _ e2)).trans e2⟩ (fun hHeld=> ?_);clear hK K;refine norm_ (a':= ?_) ?_ ?_;rotate_left
  ·show Act.put _ (some 35) _=_;simp only [Act.put,Zg,Zh,Zi,i64_w,i32_w];rfl
  refine pu_ 4 36 31 ?_;refine last_ (i:=5) (N:=none) (bA 6 63) rfl rfl kr_ (by decide) (fun K hK=> ?_);refine skip_ (w1:= ?_) (by rfl) rfl ?_ ?_;rotate_left
  ·go_simp;rfl
  refine hK.out _ _ ?_;clear hK K;refine done_ kr_ ?_;refine regOnly_normal ?_;go_wp2;exact ⟨⟨i+1,by omega,by simp [i64_w],Za HO5.out,Za HB5.out.drew,Za HX5.out,Za HSB5.out,Za HLB5.out⟩,by simp [intOf];omega⟩
 ·obtain rfl:i=K:=by omega
  have hfull:=HO.out;rw [madeTo_full] at hfull;have HO4:=Za hfull;have q0:wq.cell? ⟨w.heap.size,0,none⟩=some (.int .i64 a0_0):=(abz HX.out 0).trans rfl;have q1:wq.cell? ⟨w.heap.size,1,none⟩=some (.int .i64 (i:Int)):=(abz HX.out 1).trans rfl;have q2:wq.cell? ⟨w.heap.size,2,none⟩=some (.int .i64 a0_2):=(abz HX.out 2).trans rfl;have hself:((i:Int)<(i:Int))=False:=by simp
  clear hi hlt hmk hfull HO
  go_wp2_with fail
  refine (HRU.out wq).mono ?_;rintro e w4 ⟨rfl,hB4⟩;have HB5:=Za (HB.out.trans (hB4.mono HB.out.size));have HO5:=Za (Kd.efz HO4.out hB4);have HX5:=Za (aBz HX.out hB4);have HSB5:=Za (aBz HSB.out hB4);have HLB5:=Za (aBz HLB.out hB4);clear hB4 q0 q1 q2 HB HO4 HX HSB HLB HRU;have hld:=laid.calls (ahead:Int) A1 n c1
  go_wp2_with ((go_at_call 90;refine (hld _).mono ?_;rintro e w' ⟨rfl,rfl⟩))
  clear hld;have hX10:((w4.alloc (.cells #[.int .i64 (ahead:Int)] 3)).alloc (.cells #[.slice A1 n c1] 34)).heap[w4.heap.size]?=some (.cells #[.int .i64 (ahead:Int)] 3 (0,0)):=bGz (dDz w4 _) _;have hX11:((w4.alloc (.cells #[.int .i64 (ahead:Int)] 3)).alloc (.cells #[.slice A1 n c1] 34)).heap[w4.heap.size+1]?=some (.cells #[.slice A1 n c1] 34 (0,0)):=cFz _ _ _ (by simp);have hB6:Below w4.heap.size w4 ((w4.alloc (.cells #[.int .i64 (ahead:Int)] 3)).alloc (.cells #[.slice A1 n c1] 34)):=dIz (anz (Zw _ _) _) (anz (Zw _ _) _);have hsz:((w4.alloc (.cells #[.int .i64 (ahead:Int)] 3)).alloc (.cells #[.slice A1 n c1] 34)).heap.size=w4.heap.size+2:=by simp
  generalize (w4.alloc (.cells #[.int .i64 (ahead:Int)] 3)).alloc (.cells #[.slice A1 n c1] 34)=w5 at hX10 hX11 hB6 hsz|-;obtain ⟨b,hb⟩: ∃b,b=w4.heap.size:=⟨_,rfl⟩;rw [<-hb] at hX10 hX11 hsz hB6|-;have hwb:w.heap.size<=b:=hb▸HB5.out.size;have hB6':Below w.heap.size w w5:=HB5.out.trans (hB6.mono hwb);have hR5:Kd.C (Kd.int .u8) w5 A1 l1.length l1:=Kd.azz HR1.out hB6';have hlt1:lbx<b:=hb▸a8z HLB5.out
  have hS6:Kd.S (dM 5 .u8) 34 w5 w.heap.size (fun k=>w.heap.size<=k/\k<b/\k≠sb/\k≠lbx) (.slice (some ⟨o,0,none⟩) i cap) (List.replicate i (List.replicate size 0)):=by
   have h1:=Kd.bVz (Kd.dRz (Kd.dRz HO5.out HSB5.out (by decide)) HLB5.out (by decide));have h2:=Kd.efz h1 (hb▸hB6:Below w4.heap.size w4 w5);refine Kd.cOz h2 (fun q hq=> ?_);simp only [<-hb] at hq;exact ⟨hq.2.1,hq.2.2.1,hq.1.1.2,hq.1.2⟩
  have HSB6:=Za (aBz HSB5.out (hb▸hB6));have HLB6:=Za (aBz HLB5.out (hb▸hB6));have HX10:=Za hX10;have HX11:=Za hX11;have HB6:=Za hB6';have HR5:=Za hR5;have HS6:=Za hS6;have HSZ:=Za hsz;have HWB:=Za hwb;have HLT:=Za hlt1;clear hX10 hX11 hB6 hB6' hR5 hS6 hsz hwb hlt1 HB5 HO5 HX5 HSB5 HLB5 hb;refine (wpIn_wide (n:=8)).1 ?_
  refine wpIn_range_nth (α:=Nat×Int) rfl (by omega) (gf:=134) (lb:= #[.pointer (some ⟨b+1,0,none⟩), .pointer (some ⟨b,0,none⟩)]) rfl trivial (enters_of Tryz.func134 kr_ rfl)
   (laid_seq ahead b (b+1) n c1 HAH.out (fun k=>w.heap.size<=k/\k<b/\k≠sb/\k≠lbx) A1 l1 w5 HR5.out HN.out hc1 hn2 HX10.out HX11.out (fun k hk=>by have:=HSZ.out;have:=hk.2.1;omega)) KpC.trans ?hKb (Zw _ _) (fun _=>rfl)
   (fun pre Wx=> ∃rows,Kd.S (dM 5 .u8) 34 Wx w.heap.size (fun k=>w.heap.size<=k/\k<b/\k≠sb/\k≠lbx) (.slice (some ⟨o,0,none⟩) i cap) rows/\Wx.heap[sb]?=some (.cells #[.int .i64 (size:Int)] 3 (0,0))/\Wx.heap[lbx]?=some (.cells #[.slice (some ⟨o,0,none⟩) i cap] 24 (0,0))/\rows.length=i/\(∀r,r∈rows->r.length=size)/\bIz.fill size ((laidL ahead l1).drop pre.length) pre.length rows=some res/\Below w.heap.size w Wx/\w5.heap.size<=Wx.heap.size)
   ?hI ?hHd ?h0 (fun x=> { tmps:= #[.agg #[.int .i64 a0_0, .int .i64 (i:Int), .int .i64 a0_2], .slice A1 n c1, .pointer (some ⟨w.heap.size,0,none⟩),undef, .slice none 0 0, .int .i64 0, .pointer (some ⟨sb,0,none⟩), .int .i64 0, .pointer (some ⟨lbx,0,none⟩),u9, .int .i64 u1, .int .i64 (ahead:Int), .int .i64 (x.1:Int), .int .u8 x.2, .tuple #[.int .i64 (size:Int), .int .i64 0], .agg #[.int .i64 a0_0, .int .i64 (i:Int), .int .i64 a0_2], .slice A1 n c1, .int .i64 (n:Int), .tuple #[.int .i64 (size:Int), .int .i64 0], .int .i64 (size:Int), .int .i64 0, .int .i64 0, .bool false,undef, .pointer (some ⟨w.heap.size,1,none⟩), .int .i64 (i:Int), .slice (some ⟨o,0,none⟩) i cap, .slice (some ⟨o,0,none⟩) i cap, .int .i64 (i:Int), .int .i64 (i:Int), .bool false,u31,u32,u33,u34,u35,u36,u37, .tuple #[.int .i64 u1, .int .i64 (ahead:Int)], .agg #[.int .i64 a0_0, .int .i64 (i:Int), .int .i64 a0_2], .tuple #[.int .i64 u1, .int .i64 (ahead:Int)], .int .i64 u1, .int .i64 (ahead:Int), .int .i64 (ahead:Int), .slice A1 n c1, .func (.func 134) #[] #[.pointer (some ⟨b+1,0,none⟩), .pointer (some ⟨b,0,none⟩)], .int .i64 (x.1:Int), .int .u8 x.2,undef,undef,undef,undef,undef,undef,undef,undef,undef,undef,undef,undef],defers:= [] }) ?assign ?body ?done
  case hKb=>
   intro Wx l o1 o2 hl ho hno;refine ⟨(grownBy_putObj' Wx l o2).size,fun k oo hk hcc _=> ?_⟩;have hne:k≠l:=by rintro rfl;rw [hk] at ho;cases ho;rw [hcc] at hno;cases hno
   exact (World.putObj_heap_other hne).trans hk
  case hI=>
   rintro s X Y r ⟨rows,h1,h2,h3,h4,h5,h6,h7,h8⟩ hg hr;have hr': ∀q,r=some q-> ∃o:Obj,X.heap[q]?=some o/\o.isCells=false:=fun q e=>(hr q e).2
   have hcc: ∀(q:Nat) (oo:Obj),X.heap[q]?=some oo->oo.isCells=true->Y.heap[q]?=X.heap[q]?:=fun q oo hq ho=>grownBy_keeps_cells hg hr' hq ho
   exact ⟨rows,S_keepK h1 hcc,(hcc _ _ h2 rfl).trans h2,(hcc _ _ h3 rfl).trans h3,h4,h5,h6,⟨hg.os.trans h7.os,hg.tape.trans h7.tape,hg.output.trans h7.output,Zt h7.size hg.size,fun q hq=>(hg.block q (Zp hq h7.size) (fun e=>by have:=(hr q e.symm).1;have:=HSZ.out;have:=HWB.out;omega)).trans (h7.block q hq)⟩,Zt h8 hg.size⟩
  case hHd=>
   intro m x s X Y r h hg hr;exact h
  case h0=>
   refine ⟨_,HS6.out,HSB6.out,HLB6.out,by simp,fun r hr=>by rw [List.eq_of_mem_replicate hr];simp,?_,HB6.out,Zv _⟩
   simpa using HF.out
  case assign=>
   intro l x Wx K hK
   gi_wp2
   exact hK
  case body=>
   rintro l pre ⟨x,c⟩ Wx ⟨rows,h1,h2,h3,h4,h5,h6,h7,h8⟩ ⟨hx0,hx1⟩ hlen;dsimp only at hx0 hx1
   have hdr:(laidL ahead l1).drop pre.length=c::(laidL ahead l1).drop (pre.length+1):=by
    obtain ⟨hl,he⟩:=Zk hx1;rw [List.drop_eq_getElem_cons hl,he]
   rw [hdr, <-hx0] at h6;simp only [bIz.fill] at h6
   have hq:x / size<rows.length:=by
    by_cases hh:x / size<rows.length
    ·exact hh
    ·rw [Yb hh] at h6;cases h6
   rw [Ya hq] at h6;obtain ⟨row,hrow⟩: ∃r,rows[x / size]?=some r:=⟨_,Zf hq⟩;have hrl:row.length=size:=h5 row (Zo hrow);have hrd:rows.getD (x / size) [] =row:=by rw [Zm,hrow];rfl
   rw [hrd] at h6;have hj:x % size<size:=Nat.mod_lt _ hs;obtain ⟨g,cg,y,k1,k2,k3,kok,kne,kS⟩:=S_put2 h1 (x / size) (x % size) row hrow (by rw [hrl];exact hj) c;have e1:Wx.cell? ⟨lbx,0,none⟩=some (.slice (some ⟨o,0,none⟩) i cap):=(abz h3 0).trans rfl;have e2:Wx.cell? ⟨sb,0,none⟩=some (.int .i64 (size:Int)):=(abz h2 0).trans rfl;rw [hrl] at k1;rw [h4] at hq
   have hx100:x<=100004:=by
    have hl:(laidL ahead l1).length<=100004:=by
     have:=HN.out;unfold laidL four4;simp;omega
    omega
   have d1:Int.tdiv (x:Int) (size:Int)=((x / size:Nat):Int):=by rw [Int.ofNat_tdiv]
   have d2:Int.tmod (x:Int) (size:Int)=((x % size:Nat):Int):=by rw [Int.ofNat_tmod]
   obtain ⟨qx,hqx⟩: ∃qx,x / size=qx:=⟨_,rfl⟩;obtain ⟨rx,hrx⟩: ∃rx,x % size=rx:=⟨_,rfl⟩;have hqle:qx<=x:=hqx▸Nat.div_le_self _ _;rw [hqx] at d1 hq k1 kS h6 hrow;rw [hrx] at d2 hj k2 k3 kS h6;have i1:(0:Int)<=(qx:Int):=by omega
   have i2:(qx:Int)<(i:Int):=by omega
   have i3:(0:Int)<=(rx:Int):=by omega
   have i4:(rx:Int)<(size:Int):=by omega
   have i5: ¬(size=0):=by omega
   have i6:IntKind.i64.wrap (qx:Int)=(qx:Int):=by rw [IntKind.wrap_i64];omega
   have HEND:=Za (show KeepsFrom w5.heap.size Wx (Wx.setCell ⟨g,rx,none⟩ (.int .u8 c))/\KpC (fun k=>w.heap.size<=k/\k<b/\k≠sb/\k≠lbx) Wx (Wx.setCell ⟨g,rx,none⟩ (.int .u8 c))/\ ∃rows,Kd.S (dM 5 .u8) 34 (Wx.setCell ⟨g,rx,none⟩ (.int .u8 c)) w.heap.size (fun k=>w.heap.size<=k/\k<b/\k≠sb/\k≠lbx) (.slice (some ⟨o,0,none⟩) i cap) rows/\(Wx.setCell ⟨g,rx,none⟩ (.int .u8 c)).heap[sb]?=some (.cells #[.int .i64 (size:Int)] 3 (0,0))/\(Wx.setCell ⟨g,rx,none⟩ (.int .u8 c)).heap[lbx]?=some (.cells #[.slice (some ⟨o,0,none⟩) i cap] 24 (0,0))/\rows.length=i/\(∀r,r∈rows->r.length=size)/\bIz.fill size ((laidL ahead l1).drop (pre++ [(x,c)]).length) (pre++ [(x,c)]).length rows=some res/\Below w.heap.size w (Wx.setCell ⟨g,rx,none⟩ (.int .u8 c))/\w5.heap.size<=(Wx.setCell ⟨g,rx,none⟩ (.int .u8 c)).heap.size by
    have hsc: ∀k,k≠g->(Wx.setCell ⟨g,rx,none⟩ (.int .u8 c)).heap[k]?=Wx.heap[k]?:=fun k hk=>Below.heap_setCell Wx ⟨g,rx,none⟩ _ k hk
    refine ⟨⟨by simp,fun k oo hk hko hno=> ?_⟩,⟨by simp,fun k oo hk hcc he=>(hsc k (by rintro rfl;exact he kok)).trans hk⟩,_,kS,(hsc _ (by rintro rfl;exact kok.2.2.1 rfl)).trans h2,(hsc _ (by rintro rfl;exact kok.2.2.2 rfl)).trans h3,by rw [List.length_set];exact h4,?_,?_,czz h7 kok.1 rx _,by simpa using h8⟩
    ·exact (hsc k (by rintro rfl;have:=kok.2.1;have:=HSZ.out;omega)).trans hko
    ·intro r hr;rcases List.mem_or_eq_of_mem_set hr with hr|rfl
     ·exact h5 r hr
     ·rw [List.length_set];exact hrl
    ·rw [List.length_append,List.length_singleton, <-hx0]
     exact h6)
   have hmo:Tryz.prog.follows .mixedOrders=true:=by kernel_rfl
   clear h1 h2 h3 h4 h5 h6 h7 h8 hx0 hx1 hlen hdr hrow hrl hrd kok kne kS hqx hrx
   gi_wp2
   refine startIn_ (m:=12) (S:=fun w'=>w'.cell? ⟨lbx,0,none⟩=some (.slice (some ⟨o,0,none⟩) i cap)/\w'.cell? ⟨sb,0,none⟩=some (.int .i64 (size:Int))/\w'.cell? ⟨o,qx,none⟩=some (.slice (some ⟨g,0,none⟩) size cg)) (ds:= [11]) (bA 12 0) kr_ rfl rfl kr_ (by rintro ⟨_,_,h⟩;exact h) ⟨e1,e2,k1⟩ (fun hHeld=> ?_);refine pu_ 1 49 2 ?_;refine pu_ 6 54 66 ?_;refine pu_ 9 57 578 ?_;refine tk_ 0 48 579 hHeld ?_;refine tk_ 2 50 583 hHeld ?_;refine pu_ 3 51 591 ?_;refine pu_ 4 52 607 ?_;refine tk_ 5 53 639 hHeld ?_;refine tk_ 7 55 767 hHeld ?_;refine pu_ 8 56 1023 ?_;refine pu_ 10 58 2047 ?_;refine last_ (i:=11) (N:=none) (bA 12 4095) rfl rfl kr_ (by decide) (fun K hK=> ?_);refine skip_ (w1:= ?_) (by rfl) rfl ?_ ?_;rotate_left
   ·go_simp;rfl
   refine hK.out _ _ ?_;clear hK K;refine done_ kr_ ?_;obtain ⟨q1,q2,rows,p1,p2,p3,p4,p5,p6,p7,p8⟩:=HEND.out;refine Zb ⟨q1.1,q1.2⟩ (Zb ⟨q2.1,q2.2⟩ ⟨rows,Kd.S_drew p1,p2,p3,p4,p5,p6,p7.drew,p8⟩)
  case done=>
   rintro D xs Wx hD ⟨hxs,hlen⟩ ⟨rows,h1,h2,h3,h4,h5,h6,h7,h8⟩ hDd;rw [hlen,List.drop_length] at h6;obtain rfl:rows=res:=by simpa [bIz.fill] using h6
   have e1:Wx.cell? ⟨lbx,0,none⟩=some (.slice (some ⟨o,0,none⟩) i cap):=(abz h3 0).trans rfl;have H1:=Za h1;have H7:=Za h7;have H8:=Za h8;have HDD:=Za hDd;have HDN:=Za hD;clear h1 h2 h3 h4 h5 h6 h7 h8 hDd hD hxs hlen;simp only [Exit.inBlock,Exit.then];go_wp2;refine erz [D] Wx (by simp) (fun D' hD'=>by rw [List.mem_singleton] at hD';rw [hD'];exact HDD.out) (fun w' hkp hsz hos htp hou=> ?_)
   have hcc: ∀(q:Nat) (oo:Obj),Wx.heap[q]?=some oo->oo.isCells=true->w'.heap[q]?=Wx.heap[q]?:=fun q oo hq ho=>hkp q (a8z hq) (fun hm=>by
    rw [List.mem_singleton] at hm;subst hm
    rw [HDD.out] at hq;cases hq;cases ho)
   refine ⟨_,results_tmp2 rfl _ _ _,_,rfl,S_keepK (Kd.cOz H1.out (fun _ _=>trivial)) hcc,hos.trans H7.out.os,htp.trans H7.out.tape,hou.trans H7.out.output,by rw [hsz];exact H7.out.size,fun q hq=>(hkp q (Zp hq H7.out.size) (fun hm=>by
    rw [List.mem_singleton] at hm
    have:=HDN.out;have:=HSZ.out;have:=HWB.out;omega)).trans (H7.out.block q hq)⟩
theorem bIz.calls (k:Nat) (a0_0:Int) (a0_1:Int) (a0_2:Int) (A1:Option Addr) (c1:Nat) (l1:List Int) (r1:List (List Int)) (r2:Int) (w:World) (hr1:Kd.C (Kd.int .u8) w A1 l1.length l1) (hc1:l1.length<=c1) (h:bIz.f k a0_0 a0_1 a0_2 l1=some (r1,r2)):
 Calls Tryz.prog 55 #[.agg #[.int .i64 a0_0, .int .i64 a0_1, .int .i64 a0_2], .slice A1 l1.length c1] w fun e w'=> ∃v0_:Value,e= .returned (.tuple #[v0_, .int .i64 r2])/\Kd.S (Kd.slice 5 (Kd.int .u8)) 34 w' w.heap.size (fun _=>True) v0_ r1/\Below w.heap.size w w':=by
 unfold bIz.f at h;obtain ⟨⟨s1,s2⟩,hz,h⟩:=Option.bind_eq_some_iff.1 h;by_cases hs:s2=0
 ·subst hs;dsimp only at h;rw [Ya rfl] at h
  have cut: ∀ {p:Prop} [Decidable p] {a:Option (List (List Int)×Int)},(if p then a else none)=some (r1,r2)->p/\a=some (r1,r2):=by
   intro p _ a hh;by_cases hp:p
   ·rw [Ya hp] at hh;exact ⟨hp,hh⟩
   ·rw [Yb hp] at hh;cases hh
  obtain ⟨q1,h⟩:=cut h;obtain ⟨q2,h⟩:=cut h;obtain ⟨q3,h⟩:=cut h;obtain ⟨q4,h⟩:=cut h;obtain ⟨q5,h⟩:=cut h;obtain ⟨⟨u1,u2⟩,hu,h⟩:=Option.bind_eq_some_iff.1 h;obtain ⟨q6,h⟩:=cut h;obtain ⟨r,hf,h⟩:=Option.bind_eq_some_iff.1 h;simp only [Zx,Zy] at h;obtain ⟨rfl,rfl⟩:=h;obtain ⟨K,rfl⟩: ∃K:Nat,a0_1=(K:Int):=⟨a0_1.toNat,by omega⟩;obtain ⟨size,rfl⟩: ∃s:Nat,s1=(s:Int):=⟨s1.toNat,by omega⟩;dsimp only at q6 hf q3 q4;obtain ⟨ahead,rfl⟩: ∃s:Nat,u2=(s:Int):=⟨u2.toNat,by omega⟩;simp only [Zu] at hf;exact bIz.go k a0_0 a0_2 K size ahead l1.length A1 c1 l1 u1 r w hr1 hc1 rfl q5 hz (by omega) (by omega) (by omega) (by omega) hu (by omega) hf
 ·dsimp only at h;rw [Yb hs] at h;simp only [Zx,Zy] at h;obtain ⟨rfl,rfl⟩:=h;refine (bIz.bad k a0_0 a0_1 a0_2 A1 c1 l1 s1 s2 w hz hs).mono ?_;rintro e w' ⟨rfl,hB⟩;exact ⟨_,rfl,Kd.S_nil _ _ _ _ _,hB⟩
end Go.Proofs.Xc
end
section
namespace Go.Proofs.Xc
open Go.RowKit Go.Proofs.Pw Go.Proofs.Pl Go.Proofs.Pm
attribute [local go_sem] bcz bdz bpz bqz a4z a5z bez bfz
def diz.f (k:Nat) (a0_0:Int) (a0_1:Int) (a0_2:Int) (l1:List Int):Option ((List (List Int))×Int):=(bIz.f k a0_0 a0_1 a0_2 l1).bind fun bt116=>(if bt116.2=0 then ((aGz.f k a0_0 a0_1 a0_2 bt116.1).bind fun bt120=>(if bt116.1.length+bt120.1.length<5864062014805 then (some ((bt116.1++bt120.1),bt120.2)) else (none))) else (some (([] :List (List Int)),bt116.2)))
theorem diz.calls (k : Nat) (a0_0 : Int) (a0_1 : Int) (a0_2 : Int) (A1 : Option Addr) (c1 : Nat) (l1 : List Int) (r1 : List (List Int)) (r2 : Int) (w : World) (hr1 : Kd.C (Kd.int .u8) w A1 l1.length l1) (hc1 : l1.length <= c1) (h : diz.f k a0_0 a0_1 a0_2 l1 = some (r1, r2)) :
  Calls Tryz.prog 24 #[.agg #[.int .i64 a0_0, .int .i64 a0_1, .int .i64 a0_2], .slice A1 l1.length c1] w fun e w'=> ∃v0_:Value,e= .returned (.tuple #[v0_, .int .i64 r2])/\Kd.N (Kd.slice 5 (Kd.int .u8)) 34 w' w.heap.size (fun k_=>(w.heap.size<=k_)) v0_ r1/\Below w.heap.size w w':=by
 have hu23:=Tryz.underlying23;have HR1:=Za hr1;have HC1:=Za hc1;clear hr1 hc1;have HB:=Za (Zw w.heap.size w);have H:=h;clear h;unfold diz.f at H;obtain ⟨⟨t116,t119⟩,A3,H⟩:=ob_ H
 (try dsimp only at H)
 by_cases c4:t119=0
 rotate_left
 ·rw [Yb c4] at H;have c4b0:(t119==0)=false:=Zq c4;have c4b1:(t119 !=0)=true:=Yd c4;simp only [Zx,Zy] at H;obtain ⟨rfl,rfl⟩:=H;go_enter Tryz.func24,Tryz.ntmps24
  go_wp2_with (first|((with_reducible refine aMz (N:=2) rfl ?_);refine bx_ 2 #[.int .i64 a0_0, .int .i64 a0_1, .int .i64 a0_2] 23 ?_;intro gb115 hg w15 hbox hb;have n_:=Zb (hs_ HB hb) (Zb (Za (hbox)) (Zb (ag_ HB gb115) (ag_ HB gb115)));clear HB;obtain ⟨HB,BK115,GW115,GE115⟩:=n_;clear hb hbox hg;obtain ⟨_,_,_,_,_,_⟩:=bc3_ BK115.out)|((with_reducible refine aaz (f:=55) rfl ?_);refine gl_ (some 12) Tryz.func55 #[.agg #[.int .i64 a0_0, .int .i64 a0_1, .int .i64 a0_2], .slice A1 l1.length c1] ?_;(with_reducible refine (bIz.calls k a0_0 a0_1 a0_2 _ _ l1 t116 t119 _ (xd_ (Kd.azz HR1.out HB.out)) (HC1.out) A3.out).mono ?_);rintro e w17 ⟨v117,rfl,ho0,hb⟩;refine ⟨_,rfl,?_⟩;have n_:=Zb (Za (Kd.cnz (Kd.cjz (ok':=fun k_=>(w.heap.size<=k_)/\k_≠gb115) (Kd.S_N (Kd.bVz ho0)) (fun k_ hk_=>⟨(Zt (adz bl_) hk_.2.1),(Kd.freshB (g:=gb115) (o:= .cells #[.int .i64 a0_0, .int .i64 a0_1, .int .i64 a0_2] 23 (0,0)) bk_ k_ hk_.2.1)⟩)) (adz bl_))) (Zb (bb_ BK115 hb) (hs_ HB hb));clear BK115 HB;obtain ⟨HO118,BK115,HB⟩:=n_;clear hb ho0))
  go_ret2;exact ⟨_,er_,nl_,bl_⟩
 rw [Ya c4] at H;have c4b0:(t119==0)=true:=Ye c4;have c4b1:(t119 !=0)=false:=Yc c4;clear c4;obtain ⟨⟨t120,t123⟩,A5,H⟩:=ob_ H
 (try dsimp only at H)
 by_cases c6:t116.length+t120.length<5864062014805
 rotate_left
 ·rw [Yb c6] at H;exact Yf H (by simp)
 rw [Ya c6] at H;have LMc6:=Za c6;clear c6;obtain ⟨y124,hy124⟩: ∃y_:List (List Int),y_=(t116++t120):=⟨_,rfl⟩
 first|rw [Zl, <-hy124] at H|rw [<-hy124] at H
 (try dsimp only at H)
 have Ny124:=Za hy124;clear hy124;simp only [Zx,Zy] at H;obtain ⟨rfl,rfl⟩:=H;go_enter Tryz.func24,Tryz.ntmps24
 go_wp2_with (first|((with_reducible refine aMz (N:=2) rfl ?_);refine bx_ 2 #[.int .i64 a0_0, .int .i64 a0_1, .int .i64 a0_2] 23 ?_;intro gb115 hg w7 hbox hb;have n_:=Zb (hs_ HB hb) (Zb (Za (hbox)) (Zb (ag_ HB gb115) (ag_ HB gb115)));clear HB;obtain ⟨HB,BK115,GW115,GE115⟩:=n_;clear hb hbox hg;obtain ⟨_,_,_,_,_,_⟩:=bc3_ BK115.out)|((with_reducible refine aaz (f:=55) rfl ?_);refine gl_ (some 12) Tryz.func55 #[.agg #[.int .i64 a0_0, .int .i64 a0_1, .int .i64 a0_2], .slice A1 l1.length c1] ?_;(with_reducible refine (bIz.calls k a0_0 a0_1 a0_2 _ _ l1 t116 t119 _ (xd_ (Kd.azz HR1.out HB.out)) (HC1.out) A3.out).mono ?_);rintro e w9 ⟨v117,rfl,ho0,hb⟩;refine ⟨_,rfl,?_⟩;have n_:=Zb (Za (Kd.cnz (Kd.cjz (ok':=fun k_=>(w.heap.size<=k_)/\k_≠gb115) (Kd.S_N (Kd.bVz ho0)) (fun k_ hk_=>⟨(Zt (adz bl_) hk_.2.1),(Kd.freshB (g:=gb115) (o:= .cells #[.int .i64 a0_0, .int .i64 a0_1, .int .i64 a0_2] 23 (0,0)) bk_ k_ hk_.2.1)⟩)) (adz bl_))) (Zb (bb_ BK115 hb) (hs_ HB hb));clear BK115 HB;obtain ⟨HO118,BK115,HB⟩:=n_;clear hb ho0;obtain ⟨_,_,_,_,_,_⟩:=bc3_ BK115.out;obtain ⟨Ao11,co11,eo11⟩:=Kd.cTz HO118.out;subst eo11)|((with_reducible refine aaz (f:=19) rfl ?_);refine gl_ (some 21) Tryz.func19 #[.agg #[.int .i64 a0_0, .int .i64 a0_1, .int .i64 a0_2], .slice Ao11 t116.length co11] ?_;(with_reducible refine (aGz.calls k a0_0 a0_1 a0_2 _ _ t116 t120 t123 _ (xd_ (Kd.bLz HO118.out).2.2) ((Kd.bLz HO118.out).2.1) A5.out).mono ?_);rintro e w12 ⟨v121,rfl,ho0,hb⟩;refine ⟨_,rfl,?_⟩;have n_:=Zb (Za (Kd.cBz (xd_ HO118.out) (Kd.dKz ho0) hb)) (Zb (Za (Kd.cnz (Kd.cjz (ok':=fun k_=>(w.heap.size<=k_)/\some k_≠(.slice Ao11 t116.length co11:Value).ownBlock/\k_≠gb115) (Kd.S_N (Kd.bVz ho0)) (fun k_ hk_=>⟨(Zt (adz bl_) hk_.2.1),(Kd.fresh' (Kd.N_lt (xd_ HO118.out)) k_ hk_.2.1),(Kd.freshB (g:=gb115) (o:= .cells #[.int .i64 a0_0, .int .i64 a0_1, .int .i64 a0_2] 23 (0,0)) bk_ k_ hk_.2.1)⟩)) (adz bl_))) (Zb (bb_ BK115 hb) (hs_ HB hb)));clear HO118 BK115 HB;obtain ⟨HO118,HO122,BK115,HB⟩:=n_;clear hb ho0;obtain ⟨Ao14,co14,eo14⟩:=Kd.cTz HO122.out;subst eo14)|((with_reducible refine aoz (b:= .append) (xs:= #[.tmp 24, .tmp 25]) rfl ?_);at_builtin;refine Kd.e0z (Kd.slice 5 (Kd.int .u8)) (w0:=w) w.heap.size rfl (.tmp 24) (.tmp 25) 24 34 (.slice none 0 0) 24 rfl Tryz.underlying24 info34 rfl (by decide) (by omega) (.slice Ao11 t116.length co11) t116 t120 _ _ _ (fun k_=>(w.heap.size<=k_)/\k_≠gb115) (fun k_=>((fun k_=>(w.heap.size<=k_)/\k_≠gb115)) k_/\some k_≠(.slice Ao11 t116.length co11:Value).ownBlock) rfl rfl ?aO ?aR (fun _ hk=>hk) ?aF ?aB ?aS ?aL ?_;(case aR=>exact (by skip;exact Kd.N_F (Kd.cjz (ok':=(fun k_=>((fun k_=>(w.heap.size<=k_)/\k_≠gb115)) k_/\some k_≠(.slice Ao11 t116.length co11:Value).ownBlock)) (HO122.out) (fun k_ hk=>⟨⟨hk.1,hk.2.2⟩,hk.2.1⟩))));(case aB=>exact bl_);(case aF=>exact (fun k_ hk=>⟨(Zt (adz bl_) hk),Kd.freshB (g:=gb115) (o:= .cells #[.int .i64 a0_0, .int .i64 a0_1, .int .i64 a0_2] 23 (0,0)) bk_ k_ hk⟩));(case aO=>exact (nm_ HO118));(case aS=>exact (adz bl_));(case aL=>have:=LMc6.out;omega);intro v125 w13 ho hb hg hat;rw [<-Ny124.out] at ho;have n_:=Zb (Za (ewz (g:=gb115) (o:= .cells #[.int .i64 a0_0, .int .i64 a0_1, .int .i64 a0_2] 23 (0,0)) bk_ hg (Kd.N_ne HO118.out BK115.out (by decide)))) (Zb (Za (Kd.cLz (ok:=(fun k_=>(w.heap.size<=k_)/\k_≠gb115)) (nm_ HO122) hg hat)) (Zb (Za (hb)) (Za (ho))));clear BK115 HO122 HB HO118;obtain ⟨BK115,HO122,HB,HO126⟩:=n_;clear ho hb hg hat))
 go_ret2;exact ⟨_,er_,nm_ HO126,bl_⟩
end Go.Proofs.Xc
end
