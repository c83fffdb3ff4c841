-- Joined texts of this work (wip/tools/bundle.py).
import Derived.Test.YtpdakdcmahlghaaGreatBReconUpdates17
set_option maxHeartbeats 4000000
set_option maxRecDepth 100000
set_option linter.unusedVariables false
set_option linter.unusedSimpArgs false
section
namespace Go.Proofs.Xc
open Go.RowKit Go.Proofs.Pw Go.Proofs.Pl Go.Proofs.Pm
attribute [local go_sem] a7z a8z bjz bkz aZz a0z a9z baz
section
variable {F : Fence} {n : Nat} {P : Program}
def SeqN {α:Type} (F:Fence) (n:Nat) (P:Program) (g:Nat) (lb:Array Value) (encs:α->Array Value) (Hd:Nat->α->World->Prop) (Kp:World->World->Prop) (S:List α->Prop) (M:Nat) (w:World):Prop:=
 ∀(l:Nat) (J:List α->World->Prop) (W:World),Below w.heap.size w W->(∀s A B,J s A->A.grownBy B none->J s B)->
  (∀pre x W1,J pre W1->Hd pre.length x W1->pre.length<M->YieldAt F (n - 1) P l (encs x) W1 fun e W'=>e= .returned (.bool true)/\J (pre++ [x]) W'/\Kp W1 W')->
  J [] W->CallsIn F n P g (#[.func (.yield l) #[] #[]] ++lb) W fun e W'=>(∃v,e= .returned v)/\ ∃xs,S xs/\J xs W'
def plainPostN {α:Type} (B:Nat) (Kp:World->World->Prop) (I:List α->World->Prop) (xs:List α) (W:World):Exit->Act->World->Prop
 | .normal,_,W'=>KeepsFrom B W W'/\Kp W W'/\I xs W'
 |_,_,_=>False
theorem eTz {α : Type} {g : Operand} {ps : Array Tmp} {assign body : Code} {Q : Exit -> Act -> World -> Prop} {a : Act} {w : World}
  (hro:F.round=none) (h1:1<=n) {gf:Nat} {lb:Array Value} (hg:a.eval g= .func (.func gf) #[] lb) (hFg:F.fn gf) (eg: ∀args w,(callFunc gf args).run P w= .ok (.enter gf args) w)
  {encs:α->Array Value} {Hd:Nat->α->World->Prop} {Kp:World->World->Prop} {S:List α->Prop} {M:Nat} {w0:World} (hseq:SeqN F (n - 1) P gf lb encs Hd Kp S M w0)
  (hKt: ∀ {A B C:World},Kp A B->Kp B C->Kp A C) (hKb: ∀(W:World) (l:Nat) (o o':Obj),w.heap.size<=l->W.heap[l]?=some o->o.isCells=false->Kp W (W.putObj l o')) (hb0:Below w0.heap.size w0 w) (hps: ∀x,(encs x).size=ps.size)
  (I:List α->World->Prop) (hI:OwnFrom w.heap.size I) (hHd: ∀m x,OwnFrom w.heap.size (fun (_:Unit) W=>Hd m x W)) (h0:I [] w) (a₁:α->Act)
  (hassign: ∀(l:Nat) (x:α) (W:World) (K:Act->World->Prop),K (a₁ x) W->
   assign.wpIn (F.inRound l) (n - 1 - 1) P (Exit.then K (fun _ _ _=>False)) { tmps:=(ps.zip (encs x)).foldl (fun t (p,v)=>t.setIfInBounds p v) a.tmps,defers:= [] } W)
  (hbody: ∀(l:Nat) (pre:List α) (x:α) (W:World),I pre W->Hd pre.length x W->pre.length<M->body.wpIn (F.inRound l) (n - 1 - 1) P (plainPostN w.heap.size Kp I (pre++ [x]) W) (a₁ x) W)
  (hdone: ∀(D:Nat) (xs:List α) (W:World),w.heap.size<=D->S xs->I xs W->W.heap[D]?=some (.deferred (some []))->Q .normal { a with defers:= { target:= .collected D,args:= #[] } ::a.defers } W):
  (Code.rangeFunc g ps assign body).wpIn F n P Q a w:=by
 refine wpIn_rangeFunc fun fn hfn=> ?_
 rw [hro];obtain ⟨L,hL⟩: ∃L:LoopState->Option Code->Loop,L=fun st pe=> { state:=st,pending:=pe,fn,tmps:=a.tmps,params:=ps,assign,body,defers:=w.heap.size } :=⟨_,rfl⟩
 obtain ⟨V,hV⟩: ∃V,(w.alloc (.deferred (some []))).alloc (.loop (L .ready none))=V:=⟨_,rfl⟩
 have vl:V.heap[w.heap.size+1]?=some (.loop (L .ready none)):=by
  rw [<-hV];have:=World.alloc_heap_new (w.alloc (.deferred (some []))) (.loop (L .ready none));rwa [World.size_alloc] at this
 have vd:V.heap[w.heap.size]?=some (.deferred (some [])):=by
  rw [<-hV];exact (Below.heap_alloc _ _ _ (by simp)).trans (World.alloc_heap_new w _)
 refine ⟨w.heap.size+1, [{ target:= .collected w.heap.size,args:= #[] }],V, { target:= .fn (.func gf) lb,args:= #[.func (.yield (w.heap.size+1)) #[] #[]] },V,gf,
  #[.func (.yield (w.heap.size + 1)) #[] #[]] ++ lb, V, by rw [<- hV, hL]; exact run_enterLoop_outer _ _ _ _ _, by simp only [resolve, hg]; simp [go_sem], ?_, by simp [invoke, go_sem, eg], fun _ => h1, ?_⟩
 ·intro f' hf';simp [Target.leads] at hf';subst hf';exact hFg
 refine (hseq (w.heap.size+1) (fun pre W=>(I pre W/\w.heap.size+1<W.heap.size)/\W.heap[w.heap.size+1]?=some (.loop (L .ready none))/\W.heap[w.heap.size]?=some (.deferred (some []))) V ?_ ?_ ?_ ?_).mono ?_
 ·rw [<-hV];exact hb0.trans ((((Zw _ w).alloc (Zv _) _).alloc (by simp) _).mono hb0.size)
 ·rintro s A B ⟨⟨i1,i2⟩,i3,i4⟩ hgr;exact ⟨⟨hI s A B none i1 hgr (fun r e=>by cases e),Zp i2 hgr.size⟩,(hgr.block _ i2 (by simp)).trans i3,(hgr.block _ (by omega) (by simp)).trans i4⟩
 ·rintro pre x W ⟨⟨i1,i2⟩,i3,i4⟩ hx hlen;have hy:=run_yield (P:=P) (args:=encs x) i3 (by rw [hL];exact hps x);rw [hL] at hy;refine ⟨fn,_,assign,body,hy,roundIn_of_wpIn hfn (hassign _ x W _ ?_)⟩;refine ⟨_,run_beginRound i3 (by rw [hL]),?_⟩;have l2:(W.putObj (w.heap.size+1) (.loop { L .ready none with state:= .busy })).heap[w.heap.size+1]?=some (.loop { L .ready none with state:= .busy }):=World.putObj_heap_same i2;have d2:(W.putObj (w.heap.size+1) (.loop { L .ready none with state:= .busy })).heap[w.heap.size]?=some (.deferred (some [])):=(World.putObj_heap_other (by omega)).trans i4;have k2:Kp W (W.putObj (w.heap.size+1) (.loop { L .ready none with state:= .busy })):=hKb _ _ _ _ (by omega) i3 rfl;refine wpIn_mono (hbody _ pre x _ (hI.putObj _ i1 (by omega) i3 rfl) ((hHd _ x).putObj (s:=()) _ hx (by omega) i3 rfl) hlen) ?_;rintro e a3 W3 hp
  cases e with
  |normal=>
   obtain ⟨q1,q2,q3⟩:=hp;have l3:=q1.same _ _ (by omega) l2 rfl;have d3:=q1.same _ _ (Zv _) d2 rfl;have hr:=run_endRound (P:=P) none l3;have hlt:=(Array.getElem?_eq_some_iff.1 l3).1;refine ⟨_,_,hr,rfl,⟨⟨hI.putObj _ q3 (by omega) l3 rfl,Zp hlt (grownBy_putObj' _ _ _).size⟩,?_,(World.putObj_heap_other (by omega)).trans d3⟩,hKt (hKt k2 q2) (hKb _ _ _ _ (by omega) l3 rfl)⟩;rw [World.putObj_heap_same hlt,hL];rfl
  |ret=>exact hp.elim
  |exit id=>exact hp.elim
  |goto t=>exact hp.elim
  |panic ch=>exact hp.elim
  |outgrown=>exact hp.elim
 ·refine ⟨⟨?_,?_⟩,vl,vd⟩
  ·rw [<-hV];exact hI.alloc _ (hI.alloc _ h0)
  ·rw [<-hV];simp
 ·rintro e W2 ⟨⟨v,rfl⟩,xs,hS,⟨i1,i2⟩,i3,i4⟩;exact ⟨none,_,by have:=run_endLoop (P:=P) i3 (by rw [hL];simp);rw [hL] at this;exact this,hdone _ xs _ (Zv _) hS (hI.putObj _ i1 (by omega) i3 rfl) ((World.putObj_heap_other (by omega)).trans i4)⟩
end
end Go.Proofs.Xc
end
section
namespace Go.Proofs.Xc
open Go.RowKit Go.Proofs.Pw Go.Proofs.Pl Go.Proofs.Pm
attribute [local go_sem] a7z a8z bjz bkz aZz a0z a9z baz
attribute [local go_sem] Oper.semAt_some
def thereF:Nat->List (List Int)->List Bool->List (Nat×List Int)
 |i,b::l,h::hv=>if h=true then (i,b)::thereF (i+1) l hv else thereF (i+1) l hv
 |_,_,_=> []
abbrev ThX:=Nat×Option Addr×Nat×List Int
def thK (x:ThX):Nat×List Int:=(x.1,x.2.2.2)
def HdT (T:List (Nat×List Int)) (ok:Nat->Prop) (m:Nat) (x:ThX) (W:World):Prop:=T[m]?=some (thK x)/\x.2.2.2.length<=x.2.2.1/\Kd.F (Kd.int .u8) W ok x.2.1 x.2.2.2.length x.2.2.2
theorem there.calls (A A2:Option Addr) (n c n2 c2:Nat) (W:World):Calls Tryz.prog 58 #[.slice A n c, .slice A2 n2 c2] W fun e w'=>e= .returned (.func (.func 93) #[] #[.pointer (some ⟨W.heap.size,0,none⟩), .pointer (some ⟨W.heap.size+1,0,none⟩)])/\w'=(W.alloc (.cells #[.slice A n c] 24)).alloc (.cells #[.slice A2 n2 c2] 38):=by
 have hmf: ∀(fn:Fn) (first cap:Array Value) (w:World),(Instr.makeFunc fn first cap).run Tryz.prog w= .ok (.func fn first cap) w:=fun _ _ _ _=>rfl
 go_enter Tryz.func58,Tryz.ntmps58;go_wp2;go_ret;exact ⟨by simp,rfl⟩
theorem there1_in (l bs bh N n cs ch : Nat) (ex : Nat -> Prop) (A A2 : Option Addr) (sh : List (List Int)) (hv : List Bool) (W0 W : World) (J : List ThX -> World -> Prop)
  (hF:Kd.F (dM 5 .u8) W0 (fun k=> ¬ex k) A sh.length sh) (hH:Kd.F Kd.bool W0 (fun k=> ¬ex k) A2 hv.length hv) (hN:W0.heap.size<=N) (h0:KpX N ex W0 W) (hl:sh.length=n) (hl2:hv.length=n) (hn:n<=100000) (hn1:1<=n)
  (hBs:W.heap[bs]?=some (.cells #[.slice A n cs] 24 (0,0))) (hBh:W.heap[bh]?=some (.cells #[.slice A2 n ch] 38 (0,0))) (hbs:bs<N/\ ¬ex bs) (hbh:bh<N/\ ¬ex bh) (hJ: ∀s X Y,J s X->X.grownBy Y none->J s Y)
  (hY: ∀pre x W1,J pre W1->HdT (thereF 0 sh hv) (fun k=> ¬ex k/\k<W0.heap.size) pre.length x W1->pre.length<(thereF 0 sh hv).length->YieldAt Fence.wide (7 - 1) Tryz.prog l #[.int .i64 (x.1:Int), .slice x.2.1 x.2.2.2.length x.2.2.1] W1 fun e W'=>e= .returned (.bool true)/\J (pre++ [x]) W'/\KpX N ex W1 W') (hJ0:J [] W):
  CallsIn Fence.wide 7 Tryz.prog 93 #[.func (.yield l) #[] #[], .pointer (some ⟨bs,0,none⟩), .pointer (some ⟨bh,0,none⟩)] W fun e W'=>(∃v,e= .returned v)/\ ∃xs:List ThX,xs.map thK=thereF 0 sh hv/\J xs W':=by
 obtain ⟨T,hT⟩: ∃T,thereF 0 sh hv=T:=⟨_,rfl⟩;have hT0:thereF 0 (sh.drop 0) (hv.drop 0)=T:=hT;have HFq:=Za (fun (W':World) (hk:KpX N ex W0 W')=>(Kd.cmz (W1:=W') (Kd.dwz hF) (fun k hk1 hk2=>hk.2 k (by omega) hk1.1)));have HHq:=Za (fun (W':World) (hk:KpX N ex W0 W')=>(Kd.cmz (W1:=W') (Kd.dwz hH) (fun k hk1 hk2=>hk.2 k (by omega) hk1.1)));have HBs:=Za (fun (W':World) (hk:KpX N ex W W')=>(hk.2 bs hbs.1 hbs.2).trans hBs);have HBh:=Za (fun (W':World) (hk:KpX N ex W W')=>(hk.2 bh hbh.1 hbh.2).trans hBh);obtain ⟨r0,hr0⟩: ∃r,sh[0]?=some r:=⟨_,Zf (by omega)⟩;obtain ⟨ad,A1,c1,rfl, -, -, -⟩:=b5z (Kd.F_now hF) 0 r0 hr0;obtain ⟨ad2,rfl, -⟩:=Kd.at_bool (Kd.F_now hH) 0 (by omega) (by omega);rw [hT] at hY|-;have HJ:=Za hJ;have HY:=Za hY;have HJ0:=Za hJ0;have H0:=Za h0;have HT0:=Za hT0;have HL:=Za hl;have HL2:=Za hl2;have hbc:W.cell? ⟨bs,0,none⟩=some (.slice (some ad) n cs):=(aaz hBs 0).trans rfl;rw [hl] at HFq
 rw [hl2] at HHq;clear hF hH hN h0 hl hl2 hBs hBh hbs hbh hJ hY hJ0 hT hT0 hr0;refine callsIn_of_wp Tryz.func93 rfl trivial ?_ rfl;simp only [Tryz.ntmps93,List.size_toArray,List.length_cons,List.length_nil,Nat.reduceAdd,Nat.reduceSub,Array.replicate_succ,Array.replicate_zero,List.push_toArray,List.append_toArray,List.nil_append,List.cons_append]
 gi_wp2
 gi_loopw [8] (fun i wr=> ∃(k:Nat) (pre:List ThX),k<=n/\i= .int .i64 (k:Int)/\Aside0 (pre.map thK++thereF k (sh.drop k) (hv.drop k)=T)/\Aside0 (J pre wr)/\Aside0 (KpX N ex W wr)) (fun i _=>n - (intOf i).toNat)
 case atStart=>exact ⟨0, [],Nat.zero_le _,rfl,HT0,HJ0,⟨Zv _,fun _ _ _=>rfl⟩⟩
 clear HJ0 hbc HT0;obtain ⟨wq,rfl⟩: ∃wq,wq=wr:=⟨_,rfl⟩;obtain ⟨k,pre,hk,rfl,HP,HJP,HK⟩:=hrel;by_cases hlt:k<n
 ·obtain ⟨b,hb⟩: ∃x,sh[k]?=some x:=⟨_,Zf (by have:=HL.out;omega)⟩;obtain ⟨h,hh⟩: ∃x,hv[k]?=some x:=⟨_,Zf (by have:=HL2.out;omega)⟩
  have hds:sh.drop k=b::sh.drop (k+1):=by
   obtain ⟨h1,h2⟩:=Zk hb;rw [List.drop_eq_getElem_cons h1,h2]
  have hdh:hv.drop k=h::hv.drop (k+1):=by
   obtain ⟨h1,h2⟩:=Zk hh;rw [List.drop_eq_getElem_cons h1,h2]
  have hp:=HP.out;rw [hds,hdh,thereF] at hp;have hFs:=HFq.out wq (H0.out.trans HK.out);rw [<-HL.out] at hFs;obtain ⟨A',c',e1,l1,FR⟩:=row_atF hFs k b hb;obtain ⟨ad',he,e2⟩:=Kd.at_bool (Kd.F_now (HHq.out wq (H0.out.trans HK.out))) (k:Int) (by omega) (by omega);obtain rfl:ad2=ad':=Zn he
  have hrd:rdOf false hv (k:Int)=h:=by
   unfold rdOf;rw [Zu,Zm,hh];rfl
  rw [hrd,Zu] at e2;have q2:wq.cell? ⟨bh,0,none⟩=some (.slice (some ad2) n ch):=(aaz (HBh.out _ HK.out) 0).trans rfl;have HFR:=Za FR;have HL1:=Za l1;have HPP:=Za hp;have i1:(0:Int)<=(k:Int):=by omega
  have i2:(k:Int)<(n:Int):=by omega
  obtain ⟨nb,hnb⟩: ∃nb,b.length=nb:=⟨_,rfl⟩;have HNB:=Za hnb;rw [hnb] at e1;clear hb hh hds hdh hp hFs he hrd FR l1 hnb HP
  cases h with
  |false=>
   have hp2:=HPP.out;rw [Yb (by decide)] at hp2;have HP2:=Za hp2;clear hp2 HPP
   gi_wp2
   refine ⟨(by intro f hf;cases hf),?_⟩
   gi_wp2
   go_roundw
   case rel=>exact ⟨k+1,pre,by omega,by go_num,HP2,HJP,HK⟩
   case measure=>simp [intOf];omega
  |true=>
   have hp2:=HPP.out;rw [Ya rfl] at hp2
   have hTm:T[pre.length]?=some (k,b):=by
    rw [<-hp2,List.getElem?_append_right (by simp)];simp
   have hTl:pre.length<T.length:=(Zk hTm).1;obtain ⟨fn,tmps,assign,body,hy,hR⟩:=HY.out pre (k,A',c',b) wq HJP.out ⟨hTm,HL1.out,HFR.out⟩ hTl;dsimp only at hy;rw [HNB.out] at hy;have HRR:=Za hR
   have HP2:=Za (show (pre++ [((k,A',c',b):ThX)]).map thK++thereF (k+1) (sh.drop (k+1)) (hv.drop (k+1))=T by
    rw [<-hp2,List.map_append,List.append_assoc]
    rfl)
   clear hp2 hTm hTl hR HPP HFR
   gi_wp2
   refine HRR.out.mono ?_;rintro e w3 ⟨rfl,hJ3,hk3⟩;have HJ3:=Za hJ3;have HK3:=Za hk3;clear hy hJ3 hk3
   gi_wp2
   go_roundw
   case rel=>exact ⟨k+1,pre++ [(k,A',c',b)],by omega,by go_num,HP2,HJ3,⟨HK.out.trans HK3.out⟩⟩
   case measure=>simp [intOf];omega
 ·obtain rfl:k=n:=by omega
  have hp:=HP.out;rw [List.drop_of_length_le (by have:=HL.out;omega),thereF.eq_def] at hp;have HPE:=Za (show pre.map thK=T by simpa using hp);clear hp
  gi_wp2
  go_end0
  exact ⟨⟨_,rfl⟩,pre,HPE.out,HJP.out⟩
theorem there_seq (bs bh N n cs ch : Nat) (ex : Nat -> Prop) (A A2 : Option Addr) (sh : List (List Int)) (hv : List Bool) (W0 w : World)
  (hF:Kd.F (dM 5 .u8) W0 (fun k=> ¬ex k) A sh.length sh) (hH:Kd.F Kd.bool W0 (fun k=> ¬ex k) A2 hv.length hv) (hN:W0.heap.size<=N) (hNW:N<=w.heap.size) (h0:KpX N ex W0 w) (hl:sh.length=n) (hl2:hv.length=n) (hn:n<=100000) (hn1:1<=n)
  (hBs:w.heap[bs]?=some (.cells #[.slice A n cs] 24 (0,0))) (hBh:w.heap[bh]?=some (.cells #[.slice A2 n ch] 38 (0,0))) (hbs:bs<N/\ ¬ex bs) (hbh:bh<N/\ ¬ex bh):
  SeqN Fence.wide 7 Tryz.prog 93 #[.pointer (some ⟨bs,0,none⟩), .pointer (some ⟨bh,0,none⟩)] (fun x:ThX=> #[.int .i64 (x.1:Int), .slice x.2.1 x.2.2.2.length x.2.2.1]) (HdT (thereF 0 sh hv) (fun k=> ¬ex k/\k<W0.heap.size)) (KpX N ex) (fun xs=>xs.map thK=thereF 0 sh hv) (thereF 0 sh hv).length w:=by
 intro l J W hW hJ hY hJ0;have hk:KpX N ex w W:=⟨hW.size,fun k hk _=>hW.block k (by omega)⟩;exact there1_in l bs bh N n cs ch ex A A2 sh hv W0 W J hF hH hN (h0.trans hk) hl hl2 hn hn1 ((hk.2 bs hbs.1 hbs.2).trans hBs) ((hk.2 bh hbh.1 hbh.2).trans hBh) hbs hbh hJ hY hJ0
end Go.Proofs.Xc
end
section
namespace Go.Proofs.Xc
open Go.RowKit Go.Proofs.Pw Go.Proofs.Pl Go.Proofs.Pm
attribute [local go_sem] a7z a8z bjz bkz aZz a0z a9z baz
def slE (x:ThX):Value:= .slice x.2.1 x.2.2.2.length x.2.2.1
def slK:Kd ThX:=Kd.scalar slE (fun _=>rfl)
def ThOk (W:World) (ok:Nat->Prop) (x:ThX):Prop:=x.2.2.2.length<=x.2.2.1/\Kd.F (Kd.int .u8) W ok x.2.1 x.2.2.2.length x.2.2.2
theorem ThOk.move {W W1:World} {ok:Nat->Prop} {x:ThX} (h:ThOk W ok x) (hm: ∀k,ok k->k<W.heap.size->W1.heap[k]?=W.heap[k]?):ThOk W1 ok x:=⟨h.1,Kd.cmz h.2 hm⟩
theorem first_F {e base n c : Nat} {W : World} {ok okB : Nat -> Prop} {A : Option Addr} {its : List ThX} (h : slK.R e W base ok (.slice A n c) its) (hr : ∀ x, x ∈ its -> ThOk W okB x) :
  Kd.F (dM 5 .u8) W (fun k=>okB k\/some k=(Value.slice A n c).ownBlock) A its.length (its.map fun x=>x.2.2.2):=by
 intro W' hW;have h1:slK.R e W' base (fun k=>some k=(Value.slice A n c).ownBlock) (.slice A n c) its:=Kd.cyz (Kd.ciz rfl (Kd.aJz h (fun _ _=>trivial))) (fun k hk=>hW k (.inr hk) (Kd.R_lt h k hk.symm));obtain ⟨h2,h3,h4⟩:=(Kd.aNz h1).2.2;refine ⟨by simp,h3,fun hp=> ?_⟩;obtain ⟨ad,hA,hc⟩:=h4 hp;refine ⟨ad,hA,fun j p hj=> ?_⟩;rw [List.getElem?_map] at hj;obtain ⟨x,hx,rfl⟩:=Option.map_eq_some_iff.1 hj;obtain ⟨cs,hl,hk,hcell⟩:=hc j x hx;obtain rfl:cs= [slE x] :=hk;have hx2:=hr x (Zo hx);exact ⟨_,rfl,⟨x.2.1,x.2.2.1,rfl,hx2.1,hx2.2 W' (fun k hk hlt=>hW k (.inl hk) hlt)⟩,hcell⟩
theorem rr_one {α:Type} (enc:α->Value) {W:World} {g e:Nat} {x:α} {fr:Nat×Nat} (h:W.heap[g]?=some (.cells #[enc x] e fr)):ReadsRow (fun (y:α) cs=>cs= [enc y]) 1 W (some ⟨g,0,none⟩) 1 [x] :=by
 refine ⟨rfl,by decide,fun _=>⟨_,rfl,fun j p hp=>⟨[enc p],rfl,rfl,fun i u hu=> ?_⟩⟩⟩
 cases j with
 |succ j=>simp at hp
 |zero=>
  obtain rfl:x=p:=by simpa using hp
  cases i with
  |succ i=>simp at hu
  |zero=>
   obtain rfl:enc x=u:=by simpa using hu
   rw [show (⟨g,0,none⟩:Addr).add (0*1+0)=⟨g,0,none⟩ from cXz _];exact (cell_of_row W g 0 _ e fr h).trans rfl
theorem cpast {W:World} {b i:Nat} {v:Value} (o:Obj) (h:W.cell? ⟨b,i,none⟩=some v):(W.alloc o).cell? ⟨b,i,none⟩=some v:=(World.cell?_alloc_past _ _ _ (Zj _ _ h)).trans h
theorem cgrow {W W1:World} {a:Addr} {v:Value} {r:Option Nat} (h:W.cell? a=some v) (g:W.grownBy W1 r) (hne:some a.block≠r):W1.cell? a=some v:=(World.cell?_of_block (g.block _ (Zj _ _ h) hne)).trans h
theorem gtr {A B C:World} {r:Option Nat} (h:A.grownBy B r) (k:B.grownBy C r):A.grownBy C r:=
 ⟨k.os.trans h.os,k.tape.trans h.tape,k.output.trans h.output,Zt h.size k.size,fun i hi hr=>(k.block i (Zp hi h.size) hr).trans (h.block i hi hr)⟩
theorem gall {A B:World} {r:Option Nat} (h:A.grownBy B r) (o:Obj):A.grownBy (B.alloc o) r:=
 gtr h (by
  have hb:=alz (Zw B.heap.size B) o
  exact ⟨hb.os,hb.tape,hb.output,hb.size,fun i hi _=>hb.block i hi⟩)
theorem slK_noncells {X Y:World} {row:Option Nat} {base:Nat} {ok:Nat->Prop} {v:Value} {xs:List ThX} {e:Nat} (h:slK.R e X base ok v xs) (hg:X.grownBy Y row) (hr: ∀r,row=some r-> ∃o:Obj,X.heap[r]?=some o/\o.isCells=false):slK.R e Y base ok v xs:=by
 refine Kd.aJz (Kd.cyz (Kd.ciz rfl (Kd.aJz h (fun _ _=>trivial))) (fun k hk=> ?_)) (fun k hk=>h.1 k hk.symm);obtain ⟨cells,hc⟩:=Kd.dNz h k hk.symm;exact grownBy_keeps_cells hg hr hc rfl
theorem even_ev (p:Int) (h1:1<=p) (h2:p<=6) (n m:Int) (b:List Int):cuz.f p n m b=some (evB (pbits p) b):=by
 have hp:p=1\/p=2\/p=3\/p=4\/p=5\/p=6:=by omega
 have e1: ∀q:Int,pbits q=8->evB (pbits q) b=true:=fun q hq=>by
  unfold evB;rw [hq];show (b.length % 1==0)=true;rw [Nat.mod_one];rfl
 rcases hp with rfl|rfl|rfl|rfl|rfl|rfl
 ·rw [e1 1 rfl];rfl
 ·show some (((b.length:Int) % 2)==0)=some (b.length % 2==0);congr 1
  have:((b.length:Int) % 2)=((b.length % 2:Nat):Int):=by omega
  rw [this];rcases Nat.mod_two_eq_zero_or_one b.length with h|h<;>rw [h] <;>rfl
 ·rw [e1 3 rfl];rfl
 ·rw [e1 4 rfl];rfl
 ·rw [e1 5 rfl];rfl
 ·rw [e1 6 rfl];rfl
def goodL (wb:Int) (L:Nat) (T:List (Nat×List Int)):Bool:=T.all fun y=>evB wb y.2&&y.2.length==L
theorem goodL_snoc (wb:Int) (L:Nat) (T:List (Nat×List Int)) (y:Nat×List Int):goodL wb L (T++ [y])=(goodL wb L T&&(evB wb y.2&&y.2.length==L)):=by simp [goodL]
def len0 (T:List (Nat×List Int)):Nat:=(T.getD 0 (0, [])).2.length
structure RX (N b8 b9 b10:Nat) (A B:World):Prop where
 os:B.os=A.os
 tape:B.tape=A.tape
 output:B.output=A.output
 size:A.heap.size<=B.heap.size
 block: ∀k,k<N->k≠b8->k≠b9->k≠b10->B.heap[k]?=A.heap[k]?
 walks: ∀(k:Nat) (o:Obj),A.heap[k]?=some o->o.isCells=false->B.heap[k]?=some o
theorem RX.trans {N b8 b9 b10:Nat} {A B C:World} (h:RX N b8 b9 b10 A B) (k:RX N b8 b9 b10 B C):RX N b8 b9 b10 A C:=
 ⟨k.os.trans h.os,k.tape.trans h.tape,k.output.trans h.output,Zt h.size k.size,fun i h1 h2 h3 h4=>(k.block i h1 h2 h3 h4).trans (h.block i h1 h2 h3 h4),fun i o ho hn=>k.walks i o (h.walks i o ho hn) hn⟩
theorem RX.refl (N b8 b9 b10:Nat) (A:World):RX N b8 b9 b10 A A:=⟨rfl,rfl,rfl,Zv _,fun _ _ _ _ _=>rfl,fun _ _ h _=>h⟩
theorem RX.of_below {N b8 b9 b10:Nat} {A B:World} (h:Below A.heap.size A B) (hN:N<=A.heap.size):RX N b8 b9 b10 A B:=⟨h.os,h.tape,h.output,h.size,fun k hk _ _ _=>h.block k (by omega),fun k o ho _=>(h.block k (aPz ho)).trans ho⟩
theorem RX.eUz {N b8 b9 b10:Nat} {A B:World} {r:Option Nat} (h:A.grownBy B r) (hN:N<=A.heap.size) (hr: ∀q,r=some q->N<=q/\ ∃cells e fr,A.heap[q]?=some (.cells cells e fr)):RX N b8 b9 b10 A B:=
 ⟨h.os,h.tape,h.output,h.size,fun k hk _ _ _=>h.block k (by omega) (fun e=>by have:=(hr k e.symm).1;omega),fun k o ho hn=>(h.block k (aPz ho) (fun e=>by
  obtain ⟨-,cells,ee,fr,hc⟩:=hr k e.symm
  rw [hc] at ho;cases ho;cases hn)).trans ho⟩
theorem RX.of_set {N b8 b9 b10:Nat} {A:World} {b:Nat} {v v0:Value} {e:TypeId} (hb:A.heap[b]?=some (.cells #[v0] e (0,0))) (hx:b=b8\/b=b9\/b=b10):RX N b8 b9 b10 A (A.setCell ⟨b,0,none⟩ v):=by
 have hs: ∀k,k≠b->(A.setCell ⟨b,0,none⟩ v).heap[k]?=A.heap[k]?:=fun k hk=>Below.heap_setCell A ⟨b,0,none⟩ v k hk
 refine ⟨rfl,rfl,rfl,by simp,fun k _ h1 h2 h3=>hs k (by omega),fun k o ho hn=>(hs k ?_).trans ho⟩;rintro rfl;rw [hb] at ho;cases ho;cases hn
theorem RX.blk {N b8 b9 b10:Nat} {A B:World} (h:RX N b8 b9 b10 A B) {k:Nat} {o:Obj} (hk:A.heap[k]?=some o) (h1:k<N) (h2:k≠b8) (h3:k≠b9) (h4:k≠b10):B.heap[k]?=some o:=(h.block k h1 h2 h3 h4).trans hk
theorem slK_grow {X Y:World} {r:Option Nat} {base e:Nat} {v:Value} {xs:List ThX} (h:slK.R e X base (fun _=>True) v xs) (hg:X.grownBy Y r) (hne: ∀k,v.ownBlock=some k->some k≠r):slK.R e Y base (fun _=>True) v xs:=
 Kd.aJz (Kd.cyz (Kd.ciz rfl h) (fun k hk=>hg.block k (Kd.R_lt h k hk.symm) (hne k hk.symm))) (fun _ _=>trivial)
theorem int_grow {X Y:World} {r:Option Nat} {base e:Nat} {v:Value} {xs:List Int} (h:(Kd.int .i64).R e X base (fun _=>True) v xs) (hg:X.grownBy Y r) (hne: ∀k,v.ownBlock=some k->some k≠r):(Kd.int .i64).R e Y base (fun _=>True) v xs:=
 Kd.aJz (Kd.cyz (Kd.ciz rfl h) (fun k hk=>hg.block k (Kd.R_lt h k hk.symm) (hne k hk.symm))) (fun _ _=>trivial)
theorem own_ne {X:World} {u v:Value} {e1 e2:TypeId} (h1: ∀k,u.ownBlock=some k-> ∃cells,X.heap[k]?=some (.cells cells e1 (0,0))) (h2: ∀k,v.ownBlock=some k-> ∃cells,X.heap[k]?=some (.cells cells e2 (0,0))) (hne:e1≠e2): ∀k,u.ownBlock=some k->some k≠v.ownBlock:=by
 intro k hk he;obtain ⟨c1,e1'⟩:=h1 k hk;obtain ⟨c2,e2'⟩:=h2 k he.symm;rw [e1'] at e2';injection e2' with e3
 injection e3 with _ e4
 exact hne e4
theorem thereF_le: ∀(i:Nat) (l:List (List Int)) (hv:List Bool),(thereF i l hv).length<=l.length
 |_, [],_=>by simp [thereF]
 |_,_::_, [] =>by simp [thereF]
 |i,b::l,h::hv=>by
  have ih:=thereF_le (i+1) l hv;unfold thereF
  cases h with
  |true=>simpa using ih
  |false=>rw [Yb (by decide)];simp only [List.length_cons];omega
theorem slK_cell0 {W:World} {A:Option Addr} {n c e base:Nat} {ok:Nat->Prop} {its:List ThX} {x:ThX} (h:slK.R e W base ok (.slice A n c) its) (hx:its[0]?=some x): ∃ad,A=some ad/\W.cell? ad=some (slE x):=by
 obtain ⟨h2,h3,h4⟩:=(Kd.aNz h).2.2;obtain ⟨ad,hA,hc⟩:=h4 (by have:=(Zk hx).1;omega);obtain ⟨cs,hl,hk,hcell⟩:=hc 0 x hx;obtain rfl:cs= [slE x] :=hk;have h5:=hcell 0 (slE x) rfl;rw [show ad.add (0*slK.sz+0)=ad from by rw [Nat.zero_mul];exact cXz ad] at h5;exact ⟨ad,hA,h5⟩
theorem gdr {A B:World} {r:Option Nat} (h:A.grownBy B r):A.grownBy B.drew r:=⟨h.os,h.tape,h.output,h.size,h.block⟩
theorem thereF_lt: ∀(i:Nat) (l:List (List Int)) (hv:List Bool) (x:Nat×List Int),x∈thereF i l hv->x.1<i+l.length
 |_, [],_,x,h=>by simp [thereF] at h
 |_,_::_, [],x,h=>by simp [thereF] at h
 |i,b::l,h::hv,x,hx=>by
  unfold thereF at hx;have ih:=thereF_lt (i+1) l hv x
  cases h with
  |true=>
   rw [Ya rfl] at hx;rcases List.mem_cons.1 hx with rfl|hx
   ·simp
   ·have:=ih hx;simp only [List.length_cons];omega
  |false=>
   rw [Yb (by decide)] at hx;have:=ih hx;simp only [List.length_cons];omega
def regOnly (K:Act->World->Prop):Exit->Act->World->Prop
 | .normal,a,w=>K a w
 |_,_,_=>False
theorem regOnly_normal {K:Act->World->Prop} {a:Act} {w:World} (h:K a w):regOnly K .normal a w:=h
theorem regOnly_ {P:Program} {c:Code} {Q:Exit->Act->World->Prop} {a:Act} {w:World} (h:c.wp P (regOnly (Q .normal)) a w):c.wp P Q a w:=
 wp_mono h fun e a w h=>by
  cases e with
  |normal=>exact h
  |_=>exact h.elim
theorem S_keepK {k:IntKind} {X Y:World} {base:Nat} {ok:Nat->Prop} {v:Value} {xs:List (List Int)} {e t:Nat} (h:Kd.S (dM e k) t X base ok v xs) (hm: ∀(q:Nat) (o:Obj),X.heap[q]?=some o->o.isCells=true->Y.heap[q]?=X.heap[q]?):Kd.S (dM e k) t Y base ok v xs:=by
 refine Kd.cGz (Kd.ebz (Kd.bFz h) (fun q hq=> ?_)) (fun q hq=>hq.1);obtain ⟨-, -,hlt,z, -,cells,hc⟩:=hq;exact hm q _ hc rfl
theorem S_cell {e t:Nat} {k:IntKind} {W:World} {base o n cap:Nat} {ok:Nat->Prop} {rows:List (List Int)} (h:Kd.S (dM e k) t W base ok (.slice (some ⟨o,0,none⟩) n cap) rows) (i:Nat) (hi:i<n): ∃v,W.cell? ⟨o,i,none⟩=some v/\W.frozen? ⟨o,i,none⟩=false:=by
 obtain ⟨oki,c,hcl,hM,hcc,hfr,hoki,hH⟩:=Kd.S_elem h ([] :List Int) (i:Int) (by omega) (by omega);obtain ⟨u,rfl,hu⟩:=hM;have h0:=hcc 0 _ rfl;have h1:=hfr 0;rw [Zu,show (dM e k).sz=1 from rfl,Nat.mul_one,Nat.add_zero] at h0 h1;exact ⟨_,h0,h1⟩
section
variable {P : Program} {ops : Array Oper} {rest : List Oper} {o : Oper} {a : Act} {Q : Exit -> Act -> World -> Prop} {α : Type}
theorem S_append_rows (d : Kd α) {w0 W : World} (base base2 : Nat) (hgd : o.guard = none) (s x : Operand) (t e : TypeId) (z : Value) (bytes : Nat)
  (ho:o.op= .call { callee:= .builtin .append,args:= #[s,x],argTypes:= #[t,t] })
  (ht:P.underlying t=some (.slice e)) (hinfo:(P.info? e).map (fun i=>(i.zero,i.size,i.bytes))=some (some z,d.sz,bytes)) (hz:z.cells.size=d.sz) (hs0:0<d.sz) (hb0:0<bytes)
  (v:Value) (xs ys:List α) (g m c:Nat) (ok1 ok2:Nat->Prop) (hs:a.eval s=v) (hx:a.eval x= .slice (some ⟨g,0,none⟩) m c)
  (HO:Kd.S d e W base ok1 v xs) (HY:Kd.S d e W base2 ok2 (.slice (some ⟨g,0,none⟩) m c) ys) (hap: ∀k,ok1 k-> ¬ok2 k) (hle:base<=base2)
  (HB:Below base w0 W) (hbase:base<=W.heap.size) (hl:(xs.length+m)*bytes<=140737488355328)
  (h: ∀v1 w1,Kd.S d e w1 base (fun _=>True) v1 (xs++ys)->Below base w0 w1->W.grownBy w1 v.ownBlock->(v1.ownBlock=v.ownBlock\/ ∃b,v1.ownBlock=some b/\W.heap.size<=b)->wpList P ops Q rest (a.put o.dst v1) w1):
  wpList P ops Q (o::rest) a W:=by
 obtain ⟨f,hf⟩:=HO;obtain ⟨f2,hf2⟩:=HY;obtain ⟨F,hF⟩: ∃F:Nat->Nat,F=fun k=>open Classical in if ok1 k then f k else xs.length+f2 k:=⟨_,rfl⟩
 have hF1: ∀k,ok1 k->F k=f k:=fun k hk=>by rw [hF];exact Ya hk
 have hF2: ∀k,ok2 k->F k=xs.length+f2 k:=fun k hk=>by rw [hF];exact Yb (fun h1=>hap k h1 hk)
 have hR1:(Kd.tag F d).R e W base (fun _=>True) v xs.zipIdx:=by
  obtain ⟨h0,inner,hw,hr⟩:=hf;exact ⟨fun _ _=>trivial,inner,hw,hr.1,fun j p hj=>d.M_mono (fun k hk=>⟨⟨trivial,hk.1.2⟩,(hF1 k hk.1.1).trans hk.2⟩) (hr.2 j p hj)⟩
 have hn:=(Kd.aNz hf2).1;rw [List.length_zipIdx] at hn;have hm2:=(Kd.aNz hf2).2.2.2.1;rw [List.length_zipIdx] at hm2
 have hRd:ReadsRow (fun p cs=>(Kd.tag F d).M W base (fun k=>ok2 k/\some k≠v.ownBlock) p cs) d.sz W (some ⟨g,0,none⟩) m (ys.zipIdx xs.length):=by
  refine ⟨by rw [List.length_zipIdx];exact hn.symm,by rw [hn];exact hm2,fun hp=>⟨_,rfl,fun j p hj=> ?_⟩⟩;rw [List.getElem?_zipIdx] at hj;obtain ⟨y,hy,rfl⟩:=Option.map_eq_some_iff.1 hj;have hjl:=(Zk hy).1;obtain ⟨cs,hcl,hM,hcc⟩:=Kd.R_getA hf2 (y,0) (j:Int) (by omega) (by omega);rw [Zu,Zm,Kd.dRz hy] at hM;rw [Zu] at hcc;have hM':d.M W base2 (fun k=>(ok2 k/\some k≠(Value.slice (some ⟨g,0,none⟩) m c).ownBlock)/\f2 k=j) y cs:=hM;refine ⟨cs,hcl,?_,fun i u hu=>hcc i u hu⟩;show d.M W base (fun k=>(ok2 k/\some k≠v.ownBlock)/\F k=xs.length+j) y cs;refine d.M_mono (fun k hk=>⟨⟨hk.1.1,fun e=> ?_⟩,by rw [hF2 k hk.1.1,hk.2]⟩) (d.M_lower hle hM');exact hap k (hf.1 k e.symm) hk.1.1
 refine Kd.chz (Kd.tag F d) base hgd s x t e z bytes ho ht hinfo hz hs0 hb0 v xs.zipIdx (ys.zipIdx xs.length) (some ⟨g,0,none⟩) m c (fun _=>True) (fun k=>ok2 k/\some k≠v.ownBlock) hs hx hR1 hRd (fun _ _ hh=>hh) (fun k hk=>⟨trivial,hk.2⟩) (fun _ _=>trivial) HB hbase (by rw [List.length_zipIdx];exact hl) ?_;intro v1 w1 hr;rw [<-Nat.zero_add xs.length, <-List.zipIdx_append] at hr;exact h v1 w1 ⟨F,hr⟩
end
theorem S_putrow {W w5 : World} {base o n cap nb uc : Nat} {ua : Option Addr} {rows : List (List Int)} {b : List Int} (h : Kd.S (dM 5 .u8) 34 W base (fun _ => True) (.slice (some ⟨o, 0, none⟩) n cap) rows) (hbase : base <= W.heap.size) (hb : Below W.heap.size W w5) (hu : (Kd.int .u8).R 5 w5 W.heap.size (fun _ => True) (.slice ua nb uc) b) (i : Nat) (hi : i < n) :
  (∃v0,w5.cell? ⟨o,i,none⟩=some v0)/\w5.frozen? ⟨o,i,none⟩=false/\Kd.S (dM 5 .u8) 34 (w5.setCell ⟨o,i,none⟩ (.slice ua nb uc)) base (fun _=>True) (.slice (some ⟨o,0,none⟩) n cap) (rows.set i b):=by
 have hlo:o<W.heap.size:=Kd.S_lt h o (by simp [Value.ownBlock]);have h1:Kd.S (dM 5 .u8) 34 w5 base (fun q=>True/\ ¬W.heap.size<=q) (.slice (some ⟨o,0,none⟩) n cap) rows:=Kd.dvz (Kd.cGz (Kd.bFz h) (fun q hq=>⟨trivial,by have:=hq.2.2.1;omega⟩)) hb;obtain ⟨v0,hcv,hfv⟩:=S_cell h1 i hi;refine ⟨⟨v0,hcv⟩,hfv,?_⟩;obtain ⟨oki,cc,hcl,hM,hcc,hfr,hoki,hH⟩:=Kd.S_elem h1 ([] :List Int) (i:Int) (by omega) (by omega);obtain ⟨u0,rfl,hu0⟩:=hM;have hR:=Kd.bDz (Kd.aJz (Kd.bTz hu) (ok':=fun q=>W.heap.size<=q) (fun q hq=>hq.2.1)) hbase;obtain rfl:nb=b.length:=(Kd.aNz hu).1;have hS9:=(Kd.S_seg (ok:=fun _=>True) (okg:=fun q=>W.heap.size<=q) hH (by omega) (by omega) (seg:= [.slice ua b.length uc]) (j:=0) (Zv _) (x':=b) (okp:=fun q=>W.heap.size<=q) ⟨_,rfl,hR⟩ (fun q hq=> .inr hq) (fun q hq=>⟨trivial,by omega⟩)).1;rw [Zu,show (dM 5 .u8).sz=1 from rfl,Nat.mul_one,Nat.add_zero] at hS9;exact hS9
theorem thereF_mem: ∀(i:Nat) (l:List (List Int)) (hv:List Bool) (x:Nat×List Int),x∈thereF i l hv->x.2∈l
 |_, [],_,x,h=>by simp [thereF] at h
 |_,_::_, [],x,h=>by simp [thereF] at h
 |i,b::l,h::hv,x,hx=>by
  unfold thereF at hx;have ih:=thereF_mem (i+1) l hv x
  cases h with
  |true=>
   rw [Ya rfl] at hx;rcases List.mem_cons.1 hx with rfl|hx
   ·exact List.mem_cons_self ..
   ·exact List.mem_cons_of_mem _ (ih hx)
  |false=>
   rw [Yb (by decide)] at hx;exact List.mem_cons_of_mem _ (ih hx)
end Go.Proofs.Xc
end
section
namespace Go.Proofs.Xc
open Go.RowKit Go.Proofs.Pw Go.Proofs.Pl Go.Proofs.Pm
attribute [local go_sem] a7z a8z bjz bkz aZz a0z a9z baz
theorem copied.calls (A : Option Addr) (cap : Nat) (rows : List (List Int)) (W : World) (hC : Kd.C (dM 3 .i64) W A rows.length rows) (hn : rows.length <= 1000) (hl : ∀ r, r ∈ rows -> r.length <= 100000) :
  Calls Tryz.prog 140 #[.slice A rows.length cap] W fun e w'=> ∃v,e= .returned v/\Kd.S (dM 3 .i64) 57 w' W.heap.size (fun _=>True) v rows/\Below W.heap.size W w':=by
 have HC:=Za hC;have HL:=Za hl;obtain ⟨n,hnn⟩: ∃n,rows.length=n:=⟨_,rfl⟩;have HN:=Za hnn;rw [hnn] at hn|-;clear hC hl hnn;go_enter Tryz.func140,Tryz.ntmps140;go_wp2
 go_loopw [3,8] (fun v i wr=> ∃k:Nat,k<=n/\i= .int .i64 (k:Int)/\Aside0 (Kd.S (dM 3 .i64) 57 wr W.heap.size (fun _=>True) v (rows.take k))/\Aside0 (Below W.heap.size W wr)) (fun _ i _=>n - (intOf i).toNat)
 case atStart=>exact ⟨0,Nat.zero_le _,rfl,⟨Kd.S_nil _ _ _ _ _⟩,⟨Zw _ _⟩⟩
 obtain ⟨k,hk,rfl,HO,HB⟩:=hrel;by_cases hlt:k<n
 ·obtain ⟨x,hx⟩: ∃x,rows[k]?=some x:=⟨_,Zf (by have:=HN.out;omega)⟩;have hxl:=HL.out x (Zo hx);obtain ⟨a1,A1,c1,rfl,e1,l1,C1⟩:=b5z (Kd.azz HC.out HB.out) k x hx;have HZ:=Za (show rows.take (k+1)=rows.take k++ [x] by rw [List.take_add_one,hx];rfl);have HLZ:=Za (show (rows.take k).length<=1000 by simp;omega);have HCL:=Za (clone_i.calls A1 c1 x _ C1 (by omega));have i2:(k:Int)<(n:Int):=by omega
  obtain ⟨nx,hnx⟩: ∃nx,x.length=nx:=⟨_,rfl⟩;have HNX:=Za hnx;rw [hnx] at HCL e1 l1;clear hx C1 hxl hnx
  go_wp2_with fail
  refine HCL.out.mono ?_;rintro e w5 ⟨u,rfl,hu,hb1⟩;obtain ⟨ua,uc,rfl⟩:=Kd.aRz hu;rw [HNX.out];have hsf:=d3z HO.out hb1 HB.out.size hu;rw [HNX.out] at hsf;have HS1:=Za hsf.1;have HM1:=Za hsf.2.1;have HOK:=Za hsf.2.2;have HB5:=Za (HB.out.trans (hb1.mono HB.out.size));clear hu hb1 hsf
  go_wp2_with ((with_reducible refine anz (b:= .append) (xs:= #[.tmp 12, .tmp 15]) rfl ?_);go_must (at_builtin;refine Kd.bLz (dM 3 .i64) (w0:=W) W.heap.size rfl (.tmp 12) (.tmp 15) 69 57 (.slice none 0 0) 24 rfl Tryz.underlying69 kr_ rfl (by decide) (by decide) _ _ x [.slice ua nx uc] (fun _=>True) (fun k'=>wr.heap.size<=k') rfl rfl HM1.out HOK.out (fun _ _=>trivial) HS1.out HB5.out HB5.out.size ?aL ?_;(case aL=>have:=HLZ.out;omega));intro v2 w6 ho2 hb2 hg2 hat2;have HO2:=Za ho2;have HB2:=Za hb2;clear ho2 hb2 hg2 hat2)
  go_roundw
  case rel=>exact ⟨k+1,by omega,by go_num,⟨by rw [HZ.out];exact HO2.out⟩,HB2⟩
  case measure=>simp [intOf];omega
 ·obtain rfl:k=n:=by omega
  have HFN:=Za HO.out;rw [List.take_of_length_le (by rw [HN.out];exact Zv _)] at HFN;go_wp2;go_ret;exact ⟨_,rfl,HFN.out,HB.out⟩
theorem mJoin.calls (g : Nat) (S : Nat -> Prop) (wb p : Int) (A B : Option Addr) (ca cb cols : Nat) (a b : List (List Int)) (W : World) (hw : wb = 8 \/ wb = 16) (hMa : MayOk wb a cols) (hMb : MayOk wb b cols) (hF : Fd W g wb p S) (hCa : Kd.C (dM 3 .i64) W A a.length a) (hCb : Kd.C (dM 3 .i64) W B b.length b) (hn : a.length + b.length <= 20) :
  Calls Tryz.prog 94 #[.pointer (some ⟨g,0,none⟩), .slice A a.length ca, .slice B b.length cb] W fun e w'=> ∃v,e= .returned (.tuple #[v, .int .i64 0])/\Kd.N (dM 3 .i64) 57 w' W.heap.size (fun _=>True) v (a++b)/\Below W.heap.size W w':=by
 have HMA:=Za (fun (w1:World) (hB:Below W.heap.size W w1)=>dxz.ok g S wb p A ca cols a w1 hw hMa (hF.below hB) (Kd.azz hCa hB));have HMB:=Za (fun (w1:World) (hB:Below W.heap.size W w1)=>dxz.ok g S wb p B cb cols b w1 hw hMb (hF.below hB) (Kd.azz hCb hB));have lim: ∀ {r:List (List Int)},MayOk wb r cols-> ∀x,x∈r->x.length<=100000:=fun h x hx=>by have:=(h.each x hx).1;have:=h.c2;omega
 have HCA:=Za (fun (w1:World) (hB:Below W.heap.size W w1)=>copied.calls A ca a w1 (Kd.azz hCa hB) (by omega) (lim hMa));have HCB:=Za (fun (w1:World) (hB:Below W.heap.size W w1)=>copied.calls B cb b w1 (Kd.azz hCb hB) (by omega) (lim hMb));obtain ⟨a0,ha0⟩: ∃r,a[0]?=some r:=⟨_,Zf (by have:=hMa.n1;omega)⟩;obtain ⟨ad,A1,c1,rfl,hca, -, -⟩:=b5z hCa 0 a0 ha0;rw [cXz,(hMa.each a0 (Zo ha0)).1] at hca;obtain ⟨b0,hb0⟩: ∃r,b[0]?=some r:=⟨_,Zf (by have:=hMb.n1;omega)⟩;obtain ⟨bd,B1,c2,rfl,hcb, -, -⟩:=b5z hCb 0 b0 hb0;rw [cXz,(hMb.each b0 (Zo hb0)).1] at hcb
 have HWI:=Za (show byz.f (wrap64 ((a.length:Int)+(b.length:Int)))=some true by
  have:=hMa.n1;rw [show wrap64 ((a.length:Int)+(b.length:Int))=(a.length:Int)+(b.length:Int) by unfold wrap64;omega];unfold byz.f
  rw [Ya (by omega),Zd (by omega)])
 have na0:(0:Int)<(a.length:Int):=by have:=hMa.n1;omega
 have nb0:(0:Int)<(b.length:Int):=by have:=hMb.n1;omega
 have HE:=Za (show a.length=a.length/\b.length=b.length from ⟨rfl,rfl⟩);obtain ⟨na,hna⟩: ∃n,a.length=n:=⟨_,rfl⟩;obtain ⟨nb,hnb⟩: ∃n,b.length=n:=⟨_,rfl⟩;have HNA:=Za hna;have HNB:=Za hnb;rw [hna,hnb] at HWI;rw [hna] at HMA HCA na0 hn|-;rw [hnb] at HMB HCB nb0 hn|-;have na1:0<na:=by omega
 have nb1:0<nb:=by omega
 have hself:((cols:Int) !=(cols:Int))=false:=by simp
 clear hw hMa hMb hF hCa hCb lim ha0 hb0 hna hnb HE;go_enter Tryz.func94,Tryz.ntmps94;go_wp2;refine clz (n:=30) (S:=fun w'=>w'.cell? ad=some (.slice A1 cols c1)/\w'.cell? bd=some (.slice B1 cols c2)) (ds:= []) (bA 30 0) kr_ rfl rfl ⟨hca,hcb⟩ (fun hHeld=> ?_);refine pu_ 0 8 1 ?_;refine pu_ 1 9 3 ?_;refine one_ (i:=2) (N:=some 10) (bA 30 7) rfl rfl kr_ (by decide) (fun K hK=> ?_);refine goes_ Tryz.func138 kr_ rfl #[.pointer (some ⟨g,0,none⟩), .slice (some ad) na ca] (by rfl) rfl rfl am_ ?_
 with_reducible refine (HMA.out W.drew (crz (Zw _ _))).mono ?_
 rintro e w1 ⟨rfl,p1⟩;refine ⟨_,rfl,?_⟩;have HB1:=Za (Below.trans (crz (Zw _ _)) p1:Below W.heap.size W w1);clear p1;refine hK.out _ _ ⟨aUz HB1.out hca,aUz HB1.out hcb⟩ (fun hHeld=> ?_);clear hK K;refine norm_ (a':= ?_) ?_ ?_;rotate_left
 ·show Act.put _ (some 10) _=_;simp only [Act.put,Zg,Zh,Zi,i64_w,i32_w];rfl
 refine pu_ 3 11 15 ?_;refine pu_ 4 12 31 ?_;refine pu_ 5 13 63 ?_;refine pu_ 6 14 127 ?_;refine one_ (i:=7) (N:=some 15) (bA 30 255) rfl rfl kr_ (by decide) (fun K hK=> ?_);refine goes_ Tryz.func138 kr_ rfl #[.pointer (some ⟨g,0,none⟩), .slice (some bd) nb cb] (by rfl) rfl rfl am_ ?_
 with_reducible refine (HMB.out w1 HB1.out).mono ?_
 rintro e w2 ⟨rfl,p2⟩;refine ⟨_,rfl,?_⟩;have HB2:=Za (HB1.out.trans (p2.mono HB1.out.size));clear p2;refine hK.out _ _ ⟨aUz HB2.out hca,aUz HB2.out hcb⟩ (fun hHeld=> ?_);clear hK K;refine norm_ (a':= ?_) ?_ ?_;rotate_left
 ·show Act.put _ (some 15) _=_;simp only [Act.put,Zg,Zh,Zi,i64_w,i32_w];rfl
 refine pu_ 8 16 511 ?_;refine pu_ 9 17 1023 ?_;refine pu_ 10 18 2047 ?_;refine pu_ 11 19 4095 ?_;refine pu_ 12 20 8191 ?_;refine pu_ 15 23 40959 ?_;refine pu_ 16 24 106495 ?_;refine tk_ 13 21 114687 hHeld ?_;refine pu_ 14 22 131071 ?_;refine tk_ 17 25 262143 hHeld ?_;refine pu_ 18 26 524287 ?_;refine pu_ 19 27 1048575 ?_;refine pu_ 20 28 2097151 ?_;refine pu_ 21 29 4194303 ?_;refine pu_ 22 30 8388607 ?_;refine pu_ 23 31 16777215 ?_;refine pu_ 24 32 33554431 ?_;refine pu_ 25 33 67108863 ?_;refine pu_ 26 34 134217727 ?_;refine one_ (i:=27) (N:=some 35) (bA 30 268435455) rfl rfl kr_ (by decide) (fun K hK=> ?_);refine goes_ Tryz.func139 kr_ rfl #[.int .i64 (wrap64 ((na:Int)+(nb:Int)))] (by rfl) rfl rfl am_ ?_
 with_reducible refine (byz.calls _ _ _ HWI.out).mono ?_
 rintro e w3 ⟨rfl,m3,rfl⟩;refine ⟨_,rfl,?_⟩;have HB3:=Za (aSz HB2.out m3);refine hK.out _ _ ⟨aUz HB3.out hca,aUz HB3.out hcb⟩ (fun hHeld=> ?_);clear hK K;refine norm_ (a':= ?_) ?_ ?_;rotate_left
 ·show Act.put _ (some 35) _=_;simp only [Act.put,Zg,Zh,Zi,i64_w,i32_w];rfl
 refine pu_ 28 36 536870911 ?_;refine pu_ 29 37 1073741823 ?_;refine done_ kr_ ?_;clear hHeld;generalize w2.drewN m3=w4 at HB3|-;clear HMA HMB HWI HB1 HB2
 go_wp2_with fail
 refine (HCA.out w4 HB3.out).mono ?_;rintro e w5 ⟨v5,rfl,p5,b5⟩;obtain ⟨A5,c5,rfl⟩:=Kd.aRz (Kd.S_R p5);have HB5:=Za (HB3.out.trans (b5.mono HB3.out.size));have P5:=Za p5;rw [HNA.out];clear p5 b5 HCA
 go_wp2_with fail
 refine (HCB.out w5 HB5.out).mono ?_;rintro e w6 ⟨v6,rfl,p6,b6⟩;obtain ⟨A6,c6,rfl⟩:=Kd.aRz (Kd.S_R p6);have HB6:=Za (HB5.out.trans (b6.mono HB5.out.size));have hn5:=Kd.cbz (Kd.S_N (Kd.dvz P5.out b6)) HB3.out.size;have hf6:Kd.F (dM 3 .i64) w6 (fun k=>w5.heap.size<=k) A6 b.length b:=Kd.bZz (Kd.S_F (Kd.bFz p6)) (fun k hk=>hk.2.1);have hok: ∀k,w5.heap.size<=k->True/\some k≠(Value.slice A5 a.length c5).ownBlock:=fun k hk=>⟨trivial,fun e=>by have:=Kd.S_lt P5.out k e.symm;omega⟩
 rw [HNA.out] at hn5 hok;rw [HNB.out] at hf6;have HN5:=Za hn5;have HF6:=Za hf6;have HOK:=Za hok;rw [HNB.out];clear p6 b6 hn5 hf6 hok P5 HCB HB5
 go_wp2_with ((with_reducible refine anz (b:= .append) (xs:= #[.tmp 39, .tmp 41]) rfl ?_);go_must (at_builtin;refine Kd.eiz (dM 3 .i64) (w0:=W) W.heap.size rfl (.tmp 39) (.tmp 41) 69 57 (.slice none 0 0) 24 rfl Tryz.underlying69 kr_ rfl (by decide) (by decide) _ a b A6 nb c6 (fun _=>True) (fun k'=>w5.heap.size<=k') rfl rfl HN5.out HF6.out HOK.out (fun _ _=>trivial) HB6.out HB6.out.size ?aL ?_;(case aL=>have:=HNA.out;omega));intro v7 w7 ho2 hb2 hg2 hat2;have HO7:=Za ho2;have HB7:=Za hb2;clear ho2 hb2 hg2 hat2)
 go_ret2;exact ⟨_,rfl,HO7.out,HB7.out⟩
def pickF (rows:List (List Int)) (is:List Int):List (List Int):=is.map fun i=>rows.getD i.toNat []
theorem Pick.calls (g : Nat) (S : Nat -> Prop) (wb p : Int) (A B : Option Addr) (ca cb cols : Nat) (rows : List (List Int)) (is : List Int) (W : World) (hw : wb = 8 \/ wb = 16) (hM : MayOk wb rows cols) (hF : Fd W g wb p S) (hC : Kd.C (dM 3 .i64) W A rows.length rows) (hB : Kd.C (Kd.int .i64) W B is.length is) (h1 : 1 <= is.length) (h2 : is.length <= 20) (hin : ∀ i, i ∈ is -> 0 <= i /\ i < (rows.length : Int)) :
  Calls Tryz.prog 96 #[.pointer (some ⟨g,0,none⟩), .slice A rows.length ca, .slice B is.length cb] W fun e w'=> ∃v,e= .returned (.tuple #[v, .int .i64 0])/\Kd.S (dM 3 .i64) 57 w' W.heap.size (fun _=>True) v (pickF rows is)/\Below W.heap.size W w':=by
 have HMY:=Za (dxz.ok g S wb p A ca cols rows W hw hM hF hC);have HC:=Za hC;have HB:=Za hB;have HIN:=Za hin;have HL:=Za (show∀r,r∈rows->r.length<=1000000 from fun r hr=>by have:=(hM.each r hr).1;have:=hM.c2;omega);have HWI:=Za (show byz.f (is.length:Int)=some true by unfold byz.f;rw [Ya (by omega),Zd (by omega)]);obtain ⟨n,hn⟩: ∃n,is.length=n:=⟨_,rfl⟩;have HN:=Za hn;obtain ⟨m,hm⟩: ∃m,rows.length=m:=⟨_,rfl⟩;have HM:=Za hm;rw [hm] at HMY;rw [hn] at h1 h2 HWI;rw [hn,hm];clear hw hM hF hC hB hin hn hm;go_enter Tryz.func96,Tryz.ntmps96
 go_wp2_with fail
 refine HMY.out.mono ?_;rintro e w1 ⟨rfl,p1⟩;have HB1:=Za p1;clear p1 HMY
 go_wp2_with (first|(go_at_call 139;refine (byz.calls _ _ _ HWI.out).mono ?_;rintro e w9 ⟨rfl,m9,rfl⟩))
 have HB2:=Za (aSz HB1.out m9);generalize w1.drewN m9=w2 at HB2|-;clear HB1
 go_loopw [8,23] (fun v iv wr=> ∃k:Nat,k<=n/\iv= .int .i64 (k:Int)/\Aside0 (Kd.S (dM 3 .i64) 57 wr w2.heap.size (fun _=>True) v (pickF rows (is.take k)))/\Aside0 (Below w2.heap.size w2 wr)) (fun _ iv _=>n - (intOf iv).toNat)
 case atStart=>exact ⟨0,Nat.zero_le _,rfl,⟨Kd.S_nil _ _ _ _ _⟩,⟨Zw _ _⟩⟩
 obtain ⟨w3,rfl⟩: ∃w3,w3=wr:=⟨_,rfl⟩;obtain ⟨k,hk,rfl,HO,HB3⟩:=hrel;by_cases hlt:k<n
 ·obtain ⟨i,hi⟩: ∃x,is[k]?=some x:=⟨_,Zf (by have:=HN.out;omega)⟩;have hir:=HIN.out i (Zo hi);obtain ⟨j,rfl⟩: ∃j:Nat,i=(j:Int):=⟨i.toNat,by omega⟩;have hBW:=HB2.out.trans (HB3.out.mono HB2.out.size);obtain ⟨bd,rfl,hcb⟩:=cHz (Kd.azz HB.out hBW) k _ hi;obtain ⟨x,hx⟩: ∃x,rows[j]?=some x:=⟨_,Zf (by omega)⟩;have hxl:=HL.out x (Zo hx);obtain ⟨a1,A1,c1,rfl,e1,l1,C1⟩:=b5z (Kd.azz HC.out hBW) j x hx
  have HZ:=Za (show pickF rows (is.take (k+1))=pickF rows (is.take k)++ [x] by
   unfold pickF;rw [List.take_add_one,hi,List.map_append]
   simp [Zm,hx])
  have HLZ:=Za (show (pickF rows (is.take k)).length<=1000 by simp [pickF];omega);have HCL:=Za (clone_i.calls A1 c1 x _ C1 (by omega));have k2:(k:Int)<(n:Int):=by omega
  have j0:decide ((j:Int)<0)=false:=Ze (by omega);have j1:decide ((j:Int)>=(m:Int))=false:=Ze (by have:=HM.out;omega);have j2:(0:Int)<=(j:Int):=by omega
  have j3:(j:Int)<(m:Int):=by have:=HM.out;omega
  obtain ⟨nx,hnx⟩: ∃nx,x.length=nx:=⟨_,rfl⟩;have HNX:=Za hnx;rw [hnx] at HCL e1 l1;clear hx C1 hxl hnx hi hir hBW
  go_wp2_with fail
  refine HCL.out.mono ?_;rintro e w5 ⟨u,rfl,hu,hb1⟩;obtain ⟨ua,uc,rfl⟩:=Kd.aRz hu;rw [HNX.out];have hsf:=d3z HO.out hb1 HB3.out.size hu;rw [HNX.out] at hsf;have HS1:=Za hsf.1;have HM1:=Za hsf.2.1;have HOK:=Za hsf.2.2;have HB5:=Za (HB3.out.trans (hb1.mono HB3.out.size));clear hu hb1 hsf hcb
  go_wp2_with ((with_reducible refine anz (b:= .append) (xs:= #[.tmp 35, .tmp 41]) rfl ?_);go_must (at_builtin;refine Kd.bLz (dM 3 .i64) (w0:=w2) w2.heap.size rfl (.tmp 35) (.tmp 41) 69 57 (.slice none 0 0) 24 rfl Tryz.underlying69 kr_ rfl (by decide) (by decide) _ _ x [.slice ua nx uc] (fun _=>True) (fun k'=>w3.heap.size<=k') rfl rfl HM1.out HOK.out (fun _ _=>trivial) HS1.out HB5.out HB5.out.size ?aL ?_;(case aL=>have:=HLZ.out;omega));intro v2 w6 ho2 hb2 hg2 hat2;have HO2:=Za ho2;have HB6:=Za hb2;clear ho2 hb2 hg2 hat2)
  go_roundw
  case rel=>exact ⟨k+1,by omega,by go_num,⟨by rw [HZ.out];exact HO2.out⟩,HB6⟩
  case measure=>simp [intOf];omega
 ·obtain rfl:k=n:=by omega
  have HFN:=Za HO.out;rw [List.take_of_length_le (by rw [HN.out];exact Zv _)] at HFN;go_wp2;go_ret2;exact ⟨_,rfl,Kd.cJz HFN.out HB2.out.size,HB2.out.trans (HB3.out.mono HB2.out.size)⟩
def genM (p:Int) (n m:Nat):List (List Int):=identM n++parM p n m
def subM (p:Int) (n m:Nat) (is:List Int):List (List Int):=pickF (genM p n m) is
theorem elz {wb:Int} {L:Nat} {rows:List (List Int)} (h: ∀r,r∈rows->Good wb L r) (h1:1<=rows.length) (h2:rows.length<=20) (h3:1<=L) (h4:L<=20):MayOk wb rows L:=⟨h1,h2,h3,h4,fun r hr=>⟨(h r hr).1,(h r hr).2⟩⟩
theorem pickF_good {wb:Int} {L:Nat} {rows:List (List Int)} (h: ∀r,r∈rows->Good wb L r) (is:List Int) (hin: ∀i,i∈is->0<=i/\i<(rows.length:Int)): ∀r,r∈pickF rows is->Good wb L r:=by
 intro r hr;unfold pickF at hr;obtain ⟨i,hi,rfl⟩:=List.mem_map.1 hr;have:=hin i hi;rw [Zm,Zf (show i.toNat<rows.length by omega)];exact h _ (List.getElem_mem _)
theorem fhz (rows:List (List Int)) (is:List Int):(pickF rows is).length=is.length:=by simp [pickF]
theorem recon_inverse.ok (p : Int) (n mm : Nat) (B : Option Addr) (cb : Nat) (is : List Int) (W : World) (h : aDz.f p (n : Int) (mm : Int) = some true) (hB : Kd.C (Kd.int .i64) W B is.length is) (hl : is.length = n) (hin : ∀ i, i ∈ is -> 0 <= i /\ i < ((n + mm : Nat) : Int)) (hfull : ¬ (invF (pbits p) (subM p n mm is)).2 < n) :
  Calls Tryz.prog 60 #[.agg #[.int .i64 p, .int .i64 (n:Int), .int .i64 (mm:Int)], .slice B n cb] W fun e w'=> ∃v,e= .returned (.tuple #[v, .int .i64 0])/\Kd.S (dM 3 .i64) 57 w' W.heap.size (fun _=>True) v ((invF (pbits p) (subM p n mm is)).1.map (·.drop n))/\Below W.heap.size W w':=by
 obtain ⟨p1,p2,k1,k2,m1,m2⟩:=cvz h;have HP:=Za (fun w=>cZz.ok p (n:Int) (mm:Int) w h);have HFD:=Za (dkz.calls p ⟨p1,p2⟩);have HPB:=Za (djz p);have hgd:=dgz p n mm (by omega) (by omega) (by omega) (by omega);simp only [Zu] at HP;unfold subM genM at hfull|-;have HGD:=Za hgd;have HFU:=Za hfull;have HIS:=Za hB;have HL:=Za hl;have HIN:=Za hin;generalize parM p n mm=M at HP HGD HFU|-;generalize pbits p=wb at HFD HPB HGD HFU|-;have hu:=Tryz.underlying23;have HB:=Za (alz (Zw W.heap.size W) (.cells #[.int .i64 p, .int .i64 (n:Int), .int .i64 (mm:Int)] 23));have HX:=Za (b7z W (.cells #[.int .i64 p, .int .i64 (n:Int), .int .i64 (mm:Int)] 23));have n1:1<=n:=by omega
 have n8:n<=8:=by omega
 have mm1:1<=mm:=by omega
 have mm4:mm<=4:=by omega
 clear h hB hl hin hfull hgd p1 p2 k1 k2 m1 m2;go_enter Tryz.func60,Tryz.ntmps60
 go_wp2_with fail
 generalize W.alloc (.cells #[.int .i64 p, .int .i64 (n:Int), .int .i64 (mm:Int)] 23)=w0 at HB HX|-;refine (HFD.out w0).mono ?_;rintro e w1 ⟨g,rfl,f1,f2,f3⟩;have HB1:=Za (HB.out.trans (f3.mono HB.out.size));have HX1:=Za (awz HX.out f3);have HF1:=Za (f1.fd (fun _=>False) (fun h=>h));have HG1:=Za (show W.heap.size<=g from Zt HB.out.size f2);have q0:w1.cell? ⟨W.heap.size,0,none⟩=some (.int .i64 p):=(aaz HX1.out 0).trans rfl;have q1:w1.cell? ⟨W.heap.size,1,none⟩=some (.int .i64 (n:Int)):=(aaz HX1.out 1).trans rfl;have q2:w1.cell? ⟨W.heap.size,2,none⟩=some (.int .i64 (mm:Int)):=(aaz HX1.out 2).trans rfl;clear f1 f2 f3 HX HB HFD
 go_wp2_with fail
 refine (HP.out w1).mono ?_;rintro e w2 ⟨Bp,bc,rfl, -,hM2,hB2⟩;have HB2:=Za (HB1.out.trans (hB2.mono HB1.out.size));have HX2:=Za (awz HX1.out hB2);have HF2:=Za (HF1.out.below hB2);have HML:=Za (show M.length=mm from HGD.out.2);have hcm:=Kd.F_now hM2;have HCM:=Za hcm;have q1':w2.cell? ⟨W.heap.size,1,none⟩=some (.int .i64 (n:Int)):=(aaz HX2.out 1).trans rfl;have HID:=Za (ident.calls n w2 n1 (by omega));clear q0 q1 q2 hM2 hB2 hcm HX1 HF1 HB1 HP
 go_wp2_with fail
 refine HID.out.mono ?_;rw [bVz];rintro e w3 ⟨IA,ic,rfl,hIC,hB3⟩;have HB3:=Za (HB2.out.trans (hB3.mono HB2.out.size));have HF3:=Za (HF2.out.below hB3);have hgi:=d8z wb HPB.out n;have HGI:=Za hgi;have hIC':Kd.C (dM 3 .i64) w3 IA (identM n).length (identM n):=by rw [bVz];exact hIC
 have hCM3:Kd.C (dM 3 .i64) w3 Bp M.length M:=by rw [HML.out];exact Kd.azz HCM.out hB3
 have HJ:=Za (mJoin.calls g (fun _=>False) wb (fpoly wb) IA Bp ic bc n (identM n) M w3 HPB.out (elz hgi (by rw [bVz];omega) (by rw [bVz];omega) n1 (by omega)) (elz HGD.out.1 (by rw [HML.out];omega) (by rw [HML.out];omega) n1 (by omega)) HF3.out hIC' hCM3 (by rw [bVz,HML.out];omega));rw [bVz,HML.out] at HJ;clear hIC hIC' hCM3 hB3 hgi HID HF2 HB2 HX2 q1' HCM
 go_wp2_with fail
 refine HJ.out.mono ?_;rintro e w4 ⟨v4,rfl,hN4,hB4⟩;have hJL:(identM n++M).length=n+mm:=by rw [List.length_append,bVz,HML.out]
 obtain ⟨g4,c4,rfl, -, -, -⟩:=Kd.N_form hN4 (by omega);have HB4:=Za (HB3.out.trans (hB4.mono HB3.out.size));have HF4:=Za (HF3.out.below hB4);have hC4:=(Kd.bnz hN4).2.2;have hgj: ∀r,r∈identM n++M->Good wb n r:=fun r hr=>(List.mem_append.1 hr).elim (HGI.out r) (HGD.out.1 r)
 have HPK:=Za (Pick.calls g (fun _=>False) wb (fpoly wb) (some ⟨g4,0,none⟩) B c4 cb n (identM n++M) is w4 HPB.out (elz hgj (by omega) (by omega) n1 (by omega)) HF4.out hC4 (Kd.azz HIS.out HB4.out) (by rw [HL.out];omega) (by rw [HL.out];omega) (fun i hi=>by have:=HIN.out i hi;rw [hJL];exact this));have hgp:=pickF_good hgj is (fun i hi=>by have:=HIN.out i hi;rw [hJL];exact this);have HGP:=Za hgp;rw [hJL,HL.out] at HPK;rw [hJL];clear hN4 hB4 hC4 hgj hgp HJ HF3 HB3 hJL
 go_wp2_with fail
 refine HPK.out.mono ?_;rintro e w5 ⟨v5,rfl,hS5,hB5⟩;have hpl:(pickF (identM n++M) is).length=n:=by rw [fhz];exact HL.out
 have hC5:=Kd.c6z (Kd.S_R hS5);obtain ⟨A5,c5,rfl, -,hC5⟩:=hC5;have HB5:=Za (HB4.out.trans (hB5.mono HB4.out.size));have HF5:=Za (HF4.out.below hB5);have HIV:=Za (Inverse.calls g wb (fun _=>False) A5 c5 (pickF (identM n++M) is) w5 HPB.out (elz (by rw [hpl];exact HGP.out) (by omega) (by omega) (by omega) (by omega)) HF5.out (fun _ h=>h.elim) hC5);rw [hpl,Yb HFU.out] at HIV;simp only [Yb HFU.out] at HIV;rw [hpl];clear hS5 hB5 hC5 hpl HPK HF4 HB4
 go_wp2_with fail
 refine HIV.out.mono ?_;rintro e w6 ⟨v6,rfl,hS6,hF6,hBB6⟩;have HS6:=Za (Kd.cJz hS6 HB5.out.size);have HB6:=Za (hBB6.below HB5.out HG1.out);clear hS6 hF6 hBB6;go_wp2;go_ret2;exact ⟨_,rfl,HS6.out,HB6.out⟩
end Go.Proofs.Xc
end
