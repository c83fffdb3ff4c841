-- Joined texts of this work (wip/tools/bundle.py).
import Derived.Test.YtpdakdcmahlghaaGreatBReconWhich18
set_option maxHeartbeats 4000000
set_option maxRecDepth 100000
set_option linter.unusedVariables false
set_option linter.unusedSimpArgs false
section
namespace Go.Proofs.Xc
open Go.RowKit Go.Proofs.Pw Go.Proofs.Pl Go.Proofs.Pm Tryz
attribute [local go_sem] a7z a8z bgz bhz aVz aWz a9z baz
section
variable {P : Program} {ops : Array Oper} {rest : List Oper} {o : Oper} {a : Act} {Q : Exit -> Act -> World -> Prop} {α : Type}
theorem S_append_rows (d : Kd α) {w0 W : World} (base a0 : Nat) (hgd : o.guard = none) (s x : Operand) (t e : TypeId) (z : Value) (bytes : Nat)
  (ho:o.op= .call { callee:= .builtin .append,args:= #[s,x],argTypes:= #[t,t] })
  (ht:P.underlying t=some (.slice e)) (hinfo:(P.info? e).map (fun i=>(i.zero,i.size,i.bytes))=some (some z,d.sz,bytes)) (hz:z.cells.size=d.sz) (g0:0<d.sz) (l0:0<bytes)
  (v:Value) (xs ys:List α) (g m c:Nat) (c0 b0:Nat->Prop) (hs:a.eval s=v) (hx:a.eval x= .slice (some ⟨g,0,none⟩) m c)
  (HO:Kd.S d e W base c0 v xs) (HY:Kd.S d e W a0 b0 (.slice (some ⟨g,0,none⟩) m c) ys) (hap: ∀k,c0 k-> ¬b0 k) (hle:base<=a0)
  (HB:Below base w0 W) (hbase:base<=W.heap.size) (hl:(xs.length+m)*bytes<=140737488355328)
  (h: ∀v1 w1,Kd.S d e w1 base (fun _=>True) v1 (xs++ys)->Below base w0 w1->W.grownBy w1 v.ownBlock->(v1.ownBlock=v.ownBlock\/ ∃b,v1.ownBlock=some b/\W.heap.size<=b)->wpList P ops Q rest (a.put o.dst v1) w1):
  wpList P ops Q (o::rest) a W:=by
 obtain ⟨f,hf⟩:=HO;obtain ⟨f2,d0⟩:=HY;obtain ⟨F,hF⟩: ∃F:Nat->Nat,F=fun k=>open Classical in if c0 k then f k else xs.length+f2 k:=⟨_,rfl⟩
 have k0: ∀k,c0 k->F k=f k:=fun k hk=>by rw [hF];exact Ya hk
 have i0: ∀k,b0 k->F k=xs.length+f2 k:=fun k hk=>by rw [hF];exact Yb (fun h1=>hap k h1 hk)
 have f0:(Kd.tag F d).R e W base (fun _=>True) v xs.zipIdx:=by
  obtain ⟨h0,inner,hw,hr⟩:=hf;exact ⟨fun _ _=>trivial,inner,hw,hr.1,fun j p hj=>d.M_mono (fun k hk=>⟨⟨trivial,hk.1.2⟩,(k0 k hk.1.1).trans hk.2⟩) (hr.2 j p hj)⟩
 have hn:=(Kd.aHz d0).1;rw [List.length_zipIdx] at hn;have e0:=(Kd.aHz d0).2.2.2.1;rw [List.length_zipIdx] at e0
 have j0:bRz (fun p cs=>(Kd.tag F d).M W base (fun k=>b0 k/\some k≠v.ownBlock) p cs) d.sz W (some ⟨g,0,none⟩) m (ys.zipIdx xs.length):=by
  refine ⟨by rw [List.length_zipIdx];exact hn.symm,by rw [hn];exact e0,fun hp=>⟨_,rfl,fun j p hj=> ?_⟩⟩;rw [List.getElem?_zipIdx] at hj;obtain ⟨y,hy,rfl⟩:=Option.map_eq_some_iff.1 hj;have hjl:=(Zk hy).1;obtain ⟨cs,hcl,hM,hcc⟩:=Kd.R_getA d0 (y,0) (j:Int) (by omega) (by omega);rw [Zu,Zm,Kd.d0z hy] at hM;rw [Zu] at hcc;have hM':d.M W a0 (fun k=>(b0 k/\some k≠(Value.slice (some ⟨g,0,none⟩) m c).ownBlock)/\f2 k=j) y cs:=hM;refine ⟨cs,hcl,?_,fun i u hu=>hcc i u hu⟩;show d.M W base (fun k=>(b0 k/\some k≠v.ownBlock)/\F k=xs.length+j) y cs;refine d.M_mono (fun k hk=>⟨⟨hk.1.1,fun e=> ?_⟩,by rw [i0 k hk.1.1,hk.2]⟩) (d.M_lower hle hM');exact hap k (hf.1 k e.symm) hk.1.1
 refine Kd.bVz (Kd.tag F d) base hgd s x t e z bytes ho ht hinfo hz g0 l0 v xs.zipIdx (ys.zipIdx xs.length) (some ⟨g,0,none⟩) m c (fun _=>True) (fun k=>b0 k/\some k≠v.ownBlock) hs hx f0 j0 (fun _ _ hh=>hh) (fun k hk=>⟨trivial,hk.2⟩) (fun _ _=>trivial) HB hbase (by rw [List.length_zipIdx];exact hl) ?_;intro v1 w1 hr;rw [<-Nat.zero_add xs.length, <-List.zipIdx_append] at hr;exact h v1 w1 ⟨F,hr⟩
end
theorem S_putrow {W w5:World} {base o n cap nb uc:Nat} {ua:Option Addr} {rows:List (List Int)} {b:List Int} (h:Kd.S (dM 5 .u8) 34 W base (fun _=>True) (.slice (some ⟨o,0,none⟩) n cap) rows) (hbase:base<=W.heap.size) (hb:Below W.heap.size W w5) (hu:(Kd.int .u8).R 5 w5 W.heap.size (fun _=>True) (.slice ua nb uc) b) (i:Nat) (hi:i<n):
  (∃v0,w5.cell? ⟨o,i,none⟩=some v0)/\w5.frozen? ⟨o,i,none⟩=false/\Kd.S (dM 5 .u8) 34 (w5.setCell ⟨o,i,none⟩ (.slice ua nb uc)) base (fun _=>True) (.slice (some ⟨o,0,none⟩) n cap) (rows.set i b):=by
 have hlo:o<W.heap.size:=Kd.S_lt h o (by simp [Value.ownBlock]);have h1:Kd.S (dM 5 .u8) 34 w5 base (fun q=>True/\ ¬W.heap.size<=q) (.slice (some ⟨o,0,none⟩) n cap) rows:=Kd.dUz (Kd.cPz (Kd.bDz h) (fun q hq=>⟨trivial,by have:=hq.2.2.1;omega⟩)) hb;obtain ⟨v0,hcv,c0⟩:=S_cell h1 i hi;refine ⟨⟨v0,hcv⟩,c0,?_⟩;obtain ⟨oki,cc,hcl,hM,hcc,hfr,b0,hH⟩:=Kd.S_elem h1 ([] :List Int) (i:Int) (by omega) (by omega);obtain ⟨u0,rfl,d0⟩:=hM;have hR:=Kd.bCz (Kd.aKz (Kd.bUz hu) (ok':=fun q=>W.heap.size<=q) (fun q hq=>hq.2.1)) hbase;obtain rfl:nb=b.length:=(Kd.aHz hu).1;have a0:=(Kd.S_seg (ok:=fun _=>True) (okg:=fun q=>W.heap.size<=q) hH (by omega) (by omega) (seg:= [.slice ua b.length uc]) (j:=0) (Zv _) (x':=b) (okp:=fun q=>W.heap.size<=q) ⟨_,rfl,hR⟩ (fun q hq=> .inr hq) (fun q hq=>⟨trivial,by omega⟩)).1;rw [Zu,show (dM 5 .u8).sz=1 from rfl,Nat.mul_one,Nat.add_zero] at a0;exact a0
theorem fgz: ∀(i:Nat) (l:List (List Int)) (hv:List Bool) (x:Nat×List Int),x∈thereF i l hv->x.2∈l
 |_, [],_,x,h=>by simp [thereF] at h
 |_,_::_, [],x,h=>by simp [thereF] at h
 |i,b::l,h::hv,x,hx=>by
  unfold thereF at hx;have ih:=fgz (i+1) l hv x
  cases h with
  |true=>
   rw [Ya rfl] at hx;rcases List.mem_cons.1 hx with rfl|hx
   ·exact List.mem_cons_self ..
   ·exact List.mem_cons_of_mem _ (ih hx)
  |false=>
   rw [Yb (by decide)] at hx;exact List.mem_cons_of_mem _ (ih hx)
end Go.Proofs.Xc
end
section
namespace Go.Proofs.Xc
open Go.RowKit Go.Proofs.Pw Go.Proofs.Pl Go.Proofs.Pm Tryz
attribute [local go_sem] a7z a8z bgz bhz aVz aWz a9z baz
theorem copied.calls (A:Option Addr) (cap:Nat) (rows:List (List Int)) (W:World) (hC:Kd.C (dM 3 .i64) W A rows.length rows) (hn:rows.length<=1000) (hl: ∀r,r∈rows->r.length<=100000):
  Calls prog 140 #[.slice A rows.length cap] W fun e w'=> ∃v,e= .returned v/\Kd.S (dM 3 .i64) 57 w' W.heap.size (fun _=>True) v rows/\Below W.heap.size W w':=by
 have HC:=Za hC;have HL:=Za hl;obtain ⟨n,hnn⟩: ∃n,rows.length=n:=⟨_,rfl⟩;have HN:=Za hnn;rw [hnn] at hn|-;clear hC hl hnn;go_enter func140,ntmps140;go_wp2
 go_loopw [3,8] (fun v i wr=> ∃k:Nat,k<=n/\i= .int .i64 (k:Int)/\Aside0 (Kd.S (dM 3 .i64) 57 wr W.heap.size (fun _=>True) v (rows.take k))/\Aside0 (Below W.heap.size W wr)) (fun _ i _=>n - (intOf i).toNat)
 case atStart=>exact ⟨0,Nat.zero_le _,rfl,⟨Kd.S_nil _ _ _ _ _⟩,⟨Zw _ _⟩⟩
 obtain ⟨k,hk,rfl,HO,HB⟩:=hrel;by_cases hlt:k<n
 ·obtain ⟨x,hx⟩: ∃x,rows[k]?=some x:=⟨_,Zf (by have:=HN.o;omega)⟩;have hxl:=HL.o x (Zo hx);obtain ⟨a1,A1,c1,rfl,e1,l1,C1⟩:=cjz (Kd.aMz HC.o HB.o) k x hx;have HZ:=Za (show rows.take (k+1)=rows.take k++ [x] by rw [List.take_add_one,hx];rfl);have n0:=Za (show (rows.take k).length<=1000 by simp;omega);have f0:=Za (clone_i.calls A1 c1 x _ C1 (by omega));have i2:(k:Int)<(n:Int):=by omega
  obtain ⟨nx,hnx⟩: ∃nx,x.length=nx:=⟨_,rfl⟩;have g0:=Za hnx;rw [hnx] at f0 e1 l1;clear hx C1 hxl hnx
  go_wp2_with fail
  refine f0.o.mono ?_;rintro e w5 ⟨u,rfl,hu,b0⟩;obtain ⟨ua,uc,rfl⟩:=Kd.aQz hu;rw [g0.o];have a0:=S_fresh HO.o b0 HB.o.size hu;rw [g0.o] at a0;have j0:=Za a0.1;have k0:=Za a0.2.1;have o0:=Za a0.2.2;have h0:=Za (HB.o.trans (b0.mono HB.o.size));clear hu b0 a0
  go_wp2_with ((with_reducible refine amz (b:= .append) (xs:= #[.tmp 12, .tmp 15]) rfl ?_);go_must (at_builtin;refine Kd.bLz (dM 3 .i64) (w0:=W) W.heap.size rfl (.tmp 12) (.tmp 15) 69 57 (.slice none 0 0) 24 rfl underlying69 kr_ rfl (by decide) (by decide) _ _ x [.slice ua nx uc] (fun _=>True) (fun k'=>wr.heap.size<=k') rfl rfl k0.o o0.o (fun _ _=>trivial) j0.o h0.o h0.o.size (by have:=n0.o;omega) ?_);intro v2 w6 d0 e0 p0 c0;have q0:=Za d0;have l0:=Za e0;clear d0 e0 p0 c0)
  go_roundw
  case rel=>exact ⟨k+1,by omega,by go_num,⟨by rw [HZ.o];exact q0.o⟩,l0⟩
  case measure=>simp [intOf];omega
 ·obtain rfl:k=n:=by omega
  have i0:=Za HO.o;rw [List.take_of_length_le (by rw [HN.o];exact Zv _)] at i0;go_wp2;go_ret;exact ⟨_,rfl,i0.o,HB.o⟩
theorem mJoin.calls (g:Nat) (S:Nat->Prop) (wb p:Int) (A B:Option Addr) (ca cb cols:Nat) (a b:List (List Int)) (W:World) (hw:wb=8\/wb=16) (d0:MayOk wb a cols) (e0:MayOk wb b cols) (hF:Fd W g wb p S) (k0:Kd.C (dM 3 .i64) W A a.length a) (i0:Kd.C (dM 3 .i64) W B b.length b) (hn:a.length+b.length<=20):
  Calls prog 94 #[.pointer (some ⟨g,0,none⟩), .slice A a.length ca, .slice B b.length cb] W fun e w'=> ∃v,e= .returned (.tuple #[v, .int .i64 0])/\Kd.N (dM 3 .i64) 57 w' W.heap.size (fun _=>True) v (a++b)/\Below W.heap.size W w':=by
 have l0:=Za (fun (w1:World) (hB:Below W.heap.size W w1)=>dBz.ok g S wb p A ca cols a w1 hw d0 (hF.below hB) (Kd.aMz k0 hB));have t0:=Za (fun (w1:World) (hB:Below W.heap.size W w1)=>dBz.ok g S wb p B cb cols b w1 hw e0 (hF.below hB) (Kd.aMz i0 hB));have lim: ∀ {r:List (List Int)},MayOk wb r cols-> ∀x,x∈r->x.length<=100000:=fun h x hx=>by have:=(h.each x hx).1;have:=h.c2;omega
 have p0:=Za (fun (w1:World) (hB:Below W.heap.size W w1)=>copied.calls A ca a w1 (Kd.aMz k0 hB) (by omega) (lim d0));have q0:=Za (fun (w1:World) (hB:Below W.heap.size W w1)=>copied.calls B cb b w1 (Kd.aMz i0 hB) (by omega) (lim e0));obtain ⟨a0,o0⟩: ∃r,a[0]?=some r:=⟨_,Zf (by have:=d0.n1;omega)⟩;obtain ⟨ad,A1,c1,rfl,g0, -, -⟩:=cjz k0 0 a0 o0;rw [cRz,(d0.each a0 (Zo o0)).1] at g0;obtain ⟨b0,r0⟩: ∃r,b[0]?=some r:=⟨_,Zf (by have:=e0.n1;omega)⟩;obtain ⟨bd,B1,c2,rfl,hcb, -, -⟩:=cjz i0 0 b0 r0;rw [cRz,(e0.each b0 (Zo r0)).1] at hcb
 have n0:=Za (show bzz.f (wrap64 ((a.length:Int)+(b.length:Int)))=some true by
  have:=d0.n1;rw [show wrap64 ((a.length:Int)+(b.length:Int))=(a.length:Int)+(b.length:Int) by unfold wrap64;omega];unfold bzz.f
  rw [Ya (by omega),Zd (by omega)])
 have I0:(0:Int)<(a.length:Int):=by have:=d0.n1;omega
 have J0:(0:Int)<(b.length:Int):=by have:=e0.n1;omega
 have HE:=Za (show a.length=a.length/\b.length=b.length from ⟨rfl,rfl⟩);obtain ⟨na,hna⟩: ∃n,a.length=n:=⟨_,rfl⟩;obtain ⟨nb,hnb⟩: ∃n,b.length=n:=⟨_,rfl⟩;have u0:=Za hna;have A0:=Za hnb;rw [hna,hnb] at n0;rw [hna] at l0 p0 I0 hn|-;rw [hnb] at t0 q0 J0 hn|-;have N0:0<na:=by omega
 have M0:0<nb:=by omega
 have hself:((cols:Int) !=(cols:Int))=false:=by simp
 clear hw d0 e0 hF k0 i0 lim o0 r0 hna hnb HE;go_enter func94,ntmps94;go_wp2;refine ccz (n:=30) (S:=fun w'=>w'.cell? ad=some (.slice A1 cols c1)/\w'.cell? bd=some (.slice B1 cols c2)) (ds:= []) (bA 30 0) kr_ rfl rfl ⟨g0,hcb⟩ (fun hHeld=> ?_);refine pu_ 0 8 1 ?_;refine pu_ 1 9 3 ?_;refine one_ (i:=2) (N:=some 10) (bA 30 7) rfl rfl kr_ (by decide) (fun K hK=> ?_);refine goes_ func138 kr_ rfl #[.pointer (some ⟨g,0,none⟩), .slice (some ad) na ca] (by rfl) rfl rfl am_ ?_
 with_reducible refine (l0.o W.drew (b1z (Zw _ _))).mono ?_
 rintro e w1 ⟨rfl,p1⟩;refine ⟨_,rfl,?_⟩;have f0:=Za (Below.trans (b1z (Zw _ _)) p1:Below W.heap.size W w1);clear p1;refine hK.out _ _ ⟨a3z f0.o g0,a3z f0.o hcb⟩ (fun hHeld=> ?_);clear hK K;refine norm_ (a':= ?_) ?_ ?_;rotate_left
 ·show Act.put _ (some 10) _=_;simp only [Act.put,Zg,Zh,Zi,i64_w,i32_w];rfl
 refine pu_ 3 11 15 ?_;refine pu_ 4 12 31 ?_;refine pu_ 5 13 63 ?_;refine pu_ 6 14 127 ?_;refine one_ (i:=7) (N:=some 15) (bA 30 255) rfl rfl kr_ (by decide) (fun K hK=> ?_);refine goes_ func138 kr_ rfl #[.pointer (some ⟨g,0,none⟩), .slice (some bd) nb cb] (by rfl) rfl rfl am_ ?_
 with_reducible refine (t0.o w1 f0.o).mono ?_
 rintro e w2 ⟨rfl,p2⟩;refine ⟨_,rfl,?_⟩;have j0:=Za (f0.o.trans (p2.mono f0.o.size));clear p2;refine hK.out _ _ ⟨a3z j0.o g0,a3z j0.o hcb⟩ (fun hHeld=> ?_);clear hK K;refine norm_ (a':= ?_) ?_ ?_;rotate_left
 ·show Act.put _ (some 15) _=_;simp only [Act.put,Zg,Zh,Zi,i64_w,i32_w];rfl
 refine pu_ 8 16 511 ?_;refine pu_ 9 17 1023 ?_;refine pu_ 10 18 2047 ?_;refine pu_ 11 19 4095 ?_;refine pu_ 12 20 8191 ?_;refine pu_ 15 23 40959 ?_;refine pu_ 16 24 106495 ?_;refine tk_ 13 21 114687 hHeld ?_;refine pu_ 14 22 131071 ?_;refine tk_ 17 25 262143 hHeld ?_;refine pu_ 18 26 524287 ?_;refine pu_ 19 27 1048575 ?_;refine pu_ 20 28 2097151 ?_;refine pu_ 21 29 4194303 ?_;refine pu_ 22 30 8388607 ?_;refine pu_ 23 31 16777215 ?_;refine pu_ 24 32 33554431 ?_;refine pu_ 25 33 67108863 ?_;refine pu_ 26 34 134217727 ?_;refine one_ (i:=27) (N:=some 35) (bA 30 268435455) rfl rfl kr_ (by decide) (fun K hK=> ?_);refine goes_ func139 kr_ rfl #[.int .i64 (wrap64 ((na:Int)+(nb:Int)))] (by rfl) rfl rfl am_ ?_
 with_reducible refine (bzz.calls _ _ _ n0.o).mono ?_
 rintro e w3 ⟨rfl,m3,rfl⟩;refine ⟨_,rfl,?_⟩;have c0:=Za (a2z j0.o m3);refine hK.out _ _ ⟨a3z c0.o g0,a3z c0.o hcb⟩ (fun hHeld=> ?_);clear hK K;refine norm_ (a':= ?_) ?_ ?_;rotate_left
 ·show Act.put _ (some 35) _=_;simp only [Act.put,Zg,Zh,Zi,i64_w,i32_w];rfl
 refine pu_ 28 36 536870911 ?_;refine pu_ 29 37 1073741823 ?_;refine done_ kr_ ?_;clear hHeld;generalize w2.drewN m3=w4 at c0|-;clear l0 t0 n0 f0 j0
 go_wp2_with fail
 refine (p0.o w4 c0.o).mono ?_;rintro e w5 ⟨v5,rfl,p5,b5⟩;obtain ⟨A5,c5,rfl⟩:=Kd.aQz (Kd.S_R p5);have h0:=Za (c0.o.trans (b5.mono c0.o.size));have P5:=Za p5;rw [u0.o];clear p5 b5 p0
 go_wp2_with fail
 refine (q0.o w5 h0.o).mono ?_;rintro e w6 ⟨v6,rfl,p6,b6⟩;obtain ⟨A6,c6,rfl⟩:=Kd.aQz (Kd.S_R p6);have D0:=Za (h0.o.trans (b6.mono h0.o.size));have v0:=Kd.bXz (Kd.S_N (Kd.dUz P5.o b6)) c0.o.size;have z0:Kd.F (dM 3 .i64) w6 (fun k=>w5.heap.size<=k) A6 b.length b:=Kd.cdz (Kd.S_F (Kd.bDz p6)) (fun k hk=>hk.2.1);have hok: ∀k,w5.heap.size<=k->True/\some k≠(Value.slice A5 a.length c5).ownBlock:=fun k hk=>⟨trivial,fun e=>by have:=Kd.S_lt P5.o k e.symm;omega⟩
 rw [u0.o] at v0 hok;rw [A0.o] at z0;have H0:=Za v0;have L0:=Za z0;have F0:=Za hok;rw [A0.o];clear p6 b6 v0 z0 hok P5 q0 h0
 go_wp2_with ((with_reducible refine amz (b:= .append) (xs:= #[.tmp 39, .tmp 41]) rfl ?_);go_must (at_builtin;refine Kd.dJz (dM 3 .i64) (w0:=W) W.heap.size rfl (.tmp 39) (.tmp 41) 69 57 (.slice none 0 0) 24 rfl underlying69 kr_ rfl (by decide) (by decide) _ a b A6 nb c6 (fun _=>True) (fun k'=>w5.heap.size<=k') rfl rfl H0.o L0.o F0.o (fun _ _=>trivial) D0.o D0.o.size (by have:=u0.o;omega) ?_);intro v7 w7 C0 B0 E0 y0;have G0:=Za C0;have K0:=Za B0;clear C0 B0 E0 y0)
 go_ret2;exact ⟨_,rfl,G0.o,K0.o⟩
def pickF (rows:List (List Int)) (is:List Int):List (List Int):=is.map fun i=>rows.getD i.toNat []
theorem Pick.calls (g:Nat) (S:Nat->Prop) (wb p:Int) (A B:Option Addr) (ca cb cols:Nat) (rows:List (List Int)) (is:List Int) (W:World) (hw:wb=8\/wb=16) (hM:MayOk wb rows cols) (hF:Fd W g wb p S) (hC:Kd.C (dM 3 .i64) W A rows.length rows) (hB:Kd.C (Kd.int .i64) W B is.length is) (h1:1<=is.length) (h2:is.length<=20) (hin: ∀i,i∈is->0<=i/\i<(rows.length:Int)):
  Calls prog 96 #[.pointer (some ⟨g,0,none⟩), .slice A rows.length ca, .slice B is.length cb] W fun e w'=> ∃v,e= .returned (.tuple #[v, .int .i64 0])/\Kd.S (dM 3 .i64) 57 w' W.heap.size (fun _=>True) v (pickF rows is)/\Below W.heap.size W w':=by
 have e0:=Za (dBz.ok g S wb p A ca cols rows W hw hM hF hC);have HC:=Za hC;have HB:=Za hB;have y0:=Za hin;have HL:=Za (show∀r,r∈rows->r.length<=1000000 from fun r hr=>by have:=(hM.each r hr).1;have:=hM.c2;omega);have k0:=Za (show bzz.f (is.length:Int)=some true by unfold bzz.f;rw [Ya (by omega),Zd (by omega)]);obtain ⟨n,hn⟩: ∃n,is.length=n:=⟨_,rfl⟩;have HN:=Za hn;obtain ⟨m,hm⟩: ∃m,rows.length=m:=⟨_,rfl⟩;have HM:=Za hm;rw [hm] at e0;rw [hn] at h1 h2 k0;rw [hn,hm];clear hw hM hF hC hB hin hn hm;go_enter func96,ntmps96
 go_wp2_with fail
 refine e0.o.mono ?_;rintro e w1 ⟨rfl,p1⟩;have n0:=Za p1;clear p1 e0
 go_wp2_with (first|(go_at_call 139;refine (bzz.calls _ _ _ k0.o).mono ?_;rintro e w9 ⟨rfl,m9,rfl⟩))
 have a0:=Za (a2z n0.o m9);generalize w1.drewN m9=w2 at a0|-;clear n0
 go_loopw [8,23] (fun v iv wr=> ∃k:Nat,k<=n/\iv= .int .i64 (k:Int)/\Aside0 (Kd.S (dM 3 .i64) 57 wr w2.heap.size (fun _=>True) v (pickF rows (is.take k)))/\Aside0 (Below w2.heap.size w2 wr)) (fun _ iv _=>n - (intOf iv).toNat)
 case atStart=>exact ⟨0,Nat.zero_le _,rfl,⟨Kd.S_nil _ _ _ _ _⟩,⟨Zw _ _⟩⟩
 obtain ⟨w3,rfl⟩: ∃w3,w3=wr:=⟨_,rfl⟩;obtain ⟨k,hk,rfl,HO,b0⟩:=hrel;by_cases hlt:k<n
 ·obtain ⟨i,hi⟩: ∃x,is[k]?=some x:=⟨_,Zf (by have:=HN.o;omega)⟩;have hir:=y0.o i (Zo hi);obtain ⟨j,rfl⟩: ∃j:Nat,i=(j:Int):=⟨i.toNat,by omega⟩;have hBW:=a0.o.trans (b0.o.mono a0.o.size);obtain ⟨bd,rfl,hcb⟩:=cKz (Kd.aMz HB.o hBW) k _ hi;obtain ⟨x,hx⟩: ∃x,rows[j]?=some x:=⟨_,Zf (by omega)⟩;have hxl:=HL.o x (Zo hx);obtain ⟨a1,A1,c1,rfl,e1,l1,C1⟩:=cjz (Kd.aMz HC.o hBW) j x hx
  have HZ:=Za (show pickF rows (is.take (k+1))=pickF rows (is.take k)++ [x] by
   unfold pickF;rw [List.take_add_one,hi,List.map_append]
   simp [Zm,hx])
  have v0:=Za (show (pickF rows (is.take k)).length<=1000 by simp [pickF];omega);have l0:=Za (clone_i.calls A1 c1 x _ C1 (by omega));have k2:(k:Int)<(n:Int):=by omega
  have j0:decide ((j:Int)<0)=false:=Ze (by omega);have j1:decide ((j:Int)>=(m:Int))=false:=Ze (by have:=HM.o;omega);have j2:(0:Int)<=(j:Int):=by omega
  have j3:(j:Int)<(m:Int):=by have:=HM.o;omega
  obtain ⟨nx,hnx⟩: ∃nx,x.length=nx:=⟨_,rfl⟩;have g0:=Za hnx;rw [hnx] at l0 e1 l1;clear hx C1 hxl hnx hi hir hBW
  go_wp2_with fail
  refine l0.o.mono ?_;rintro e w5 ⟨u,rfl,hu,d0⟩;obtain ⟨ua,uc,rfl⟩:=Kd.aQz hu;rw [g0.o];have c0:=S_fresh HO.o d0 b0.o.size hu;rw [g0.o] at c0;have q0:=Za c0.1;have r0:=Za c0.2.1;have u0:=Za c0.2.2;have h0:=Za (b0.o.trans (d0.mono b0.o.size));clear hu d0 c0 hcb
  go_wp2_with ((with_reducible refine amz (b:= .append) (xs:= #[.tmp 35, .tmp 41]) rfl ?_);go_must (at_builtin;refine Kd.bLz (dM 3 .i64) (w0:=w2) w2.heap.size rfl (.tmp 35) (.tmp 41) 69 57 (.slice none 0 0) 24 rfl underlying69 kr_ rfl (by decide) (by decide) _ _ x [.slice ua nx uc] (fun _=>True) (fun k'=>w3.heap.size<=k') rfl rfl r0.o u0.o (fun _ _=>trivial) q0.o h0.o h0.o.size (by have:=v0.o;omega) ?_);intro v2 w6 o0 i0 t0 f0;have A0:=Za o0;have z0:=Za i0;clear o0 i0 t0 f0)
  go_roundw
  case rel=>exact ⟨k+1,by omega,by go_num,⟨by rw [HZ.o];exact A0.o⟩,z0⟩
  case measure=>simp [intOf];omega
 ·obtain rfl:k=n:=by omega
  have p0:=Za HO.o;rw [List.take_of_length_le (by rw [HN.o];exact Zv _)] at p0;go_wp2;go_ret2;exact ⟨_,rfl,Kd.cMz p0.o a0.o.size,a0.o.trans (b0.o.mono a0.o.size)⟩
def genM (p:Int) (n m:Nat):List (List Int):=identM n++parM p n m
def subM (p:Int) (n m:Nat) (is:List Int):List (List Int):=pickF (genM p n m) is
theorem eqz {wb:Int} {L:Nat} {rows:List (List Int)} (h: ∀r,r∈rows->Good wb L r) (h1:1<=rows.length) (h2:rows.length<=20) (h3:1<=L) (h4:L<=20):MayOk wb rows L:=⟨h1,h2,h3,h4,fun r hr=>⟨(h r hr).1,(h r hr).2⟩⟩
theorem pickF_good {wb:Int} {L:Nat} {rows:List (List Int)} (h: ∀r,r∈rows->Good wb L r) (is:List Int) (hin: ∀i,i∈is->0<=i/\i<(rows.length:Int)): ∀r,r∈pickF rows is->Good wb L r:=by
 intro r hr;unfold pickF at hr;obtain ⟨i,hi,rfl⟩:=List.mem_map.1 hr;have:=hin i hi;rw [Zm,Zf (show i.toNat<rows.length by omega)];exact h _ (List.getElem_mem _)
theorem fBz (rows:List (List Int)) (is:List Int):(pickF rows is).length=is.length:=by simp [pickF]
theorem recon_inverse.ok (p:Int) (n mm:Nat) (B:Option Addr) (cb:Nat) (is:List Int) (W:World) (h:avz.f p (n:Int) (mm:Int)=some true) (hB:Kd.C (Kd.int .i64) W B is.length is) (hl:is.length=n) (hin: ∀i,i∈is->0<=i/\i<((n+mm:Nat):Int)) (hfull: ¬(invF (pbits p) (subM p n mm is)).2<n):
  Calls prog 60 #[.agg #[.int .i64 p, .int .i64 (n:Int), .int .i64 (mm:Int)], .slice B n cb] W fun e w'=> ∃v,e= .returned (.tuple #[v, .int .i64 0])/\Kd.S (dM 3 .i64) 57 w' W.heap.size (fun _=>True) v ((invF (pbits p) (subM p n mm is)).1.map (·.drop n))/\Below W.heap.size W w':=by
 obtain ⟨p1,p2,k1,k2,m1,m2⟩:=bZz h;have HP:=Za (fun w=>c5z.ok p (n:Int) (mm:Int) w h);have u0:=Za (dLz.calls p ⟨p1,p2⟩);have f0:=Za (dQz p);have hgd:=cZz p n mm (by omega) (by omega) (by omega) (by omega);simp only [Zu] at HP;unfold subM genM at hfull|-;have b0:=Za hgd;have h0:=Za hfull;have HIS:=Za hB;have HL:=Za hl;have L0:=Za hin;generalize parM p n mm=M at HP b0 h0|-;generalize pbits p=wb at u0 f0 b0 h0|-;have hu:=underlying23;have HB:=Za (aoz (Zw W.heap.size W) (.cells #[.int .i64 p, .int .i64 (n:Int), .int .i64 (mm:Int)] 23));have HX:=Za (cEz W (.cells #[.int .i64 p, .int .i64 (n:Int), .int .i64 (mm:Int)] 23));have n1:1<=n:=by omega
 have n8:n<=8:=by omega
 have W0:1<=mm:=by omega
 have V0:mm<=4:=by omega
 clear h hB hl hin hfull hgd p1 p2 k1 k2 m1 m2;go_enter func60,ntmps60
 go_wp2_with fail
 generalize W.alloc (.cells #[.int .i64 p, .int .i64 (n:Int), .int .i64 (mm:Int)] 23)=w0 at HB HX|-;refine (u0.o w0).mono ?_;rintro e w1 ⟨g,rfl,f1,f2,f3⟩;have t0:=Za (HB.o.trans (f3.mono HB.o.size));have c0:=Za (aNz HX.o f3);have G0:=Za (f1.fd (fun _=>False) (fun h=>h));have T0:=Za (show W.heap.size<=g from Zt HB.o.size f2);have q0:w1.cell? ⟨W.heap.size,0,none⟩=some (.int .i64 p):=(abz c0.o 0).trans rfl;have q1:w1.cell? ⟨W.heap.size,1,none⟩=some (.int .i64 (n:Int)):=(abz c0.o 1).trans rfl;have q2:w1.cell? ⟨W.heap.size,2,none⟩=some (.int .i64 (mm:Int)):=(abz c0.o 2).trans rfl;clear f1 f2 f3 HX HB u0
 go_wp2_with fail
 refine (HP.o w1).mono ?_;rintro e w2 ⟨Bp,bc,rfl, -,K0,i0⟩;have A0:=Za (t0.o.trans (i0.mono t0.o.size));have J0:=Za (aNz c0.o i0);have M0:=Za (G0.o.below i0);have a0:=Za (show M.length=mm from b0.o.2);have hcm:=Kd.F_now K0;have HCM:=Za hcm;have q1':w2.cell? ⟨W.heap.size,1,none⟩=some (.int .i64 (n:Int)):=(abz J0.o 1).trans rfl;have E0:=Za (ident.calls n w2 n1 (by omega));clear q0 q1 q2 K0 i0 hcm c0 G0 t0 HP
 go_wp2_with fail
 refine E0.o.mono ?_;rw [bwz];rintro e w3 ⟨IA,ic,rfl,N0,j0⟩;have r0:=Za (A0.o.trans (j0.mono A0.o.size));have v0:=Za (M0.o.below j0);have hgi:=djz wb f0.o n;have O0:=Za hgi;have hIC':Kd.C (dM 3 .i64) w3 IA (identM n).length (identM n):=by rw [bwz];exact N0
 have e0:Kd.C (dM 3 .i64) w3 Bp M.length M:=by rw [a0.o];exact Kd.aMz HCM.o j0
 have HJ:=Za (mJoin.calls g (fun _=>False) wb (fpoly wb) IA Bp ic bc n (identM n) M w3 f0.o (eqz hgi (by rw [bwz];omega) (by rw [bwz];omega) n1 (by omega)) (eqz b0.o.1 (by rw [a0.o];omega) (by rw [a0.o];omega) n1 (by omega)) v0.o hIC' e0 (by rw [bwz,a0.o];omega));rw [bwz,a0.o] at HJ;clear N0 hIC' e0 j0 hgi E0 M0 A0 J0 q1' HCM
 go_wp2_with fail
 refine HJ.o.mono ?_;rintro e w4 ⟨v4,rfl,z0,o0⟩;have g0:(identM n++M).length=n+mm:=by rw [List.length_append,bwz,a0.o]
 obtain ⟨g4,c4,rfl, -, -, -⟩:=Kd.N_form z0 (by omega);have k0:=Za (r0.o.trans (o0.mono r0.o.size));have p0:=Za (v0.o.below o0);have F0:=(Kd.bpz z0).2.2;have hgj: ∀r,r∈identM n++M->Good wb n r:=fun r hr=>(List.mem_append.1 hr).elim (O0.o r) (b0.o.1 r)
 have y0:=Za (Pick.calls g (fun _=>False) wb (fpoly wb) (some ⟨g4,0,none⟩) B c4 cb n (identM n++M) is w4 f0.o (eqz hgj (by omega) (by omega) n1 (by omega)) p0.o F0 (Kd.aMz HIS.o k0.o) (by rw [HL.o];omega) (by rw [HL.o];omega) (fun i hi=>by have:=L0.o i hi;rw [g0];exact this));have C0:=pickF_good hgj is (fun i hi=>by have:=L0.o i hi;rw [g0];exact this);have S0:=Za C0;rw [g0,HL.o] at y0;rw [g0];clear z0 o0 F0 hgj C0 HJ v0 r0 g0
 go_wp2_with fail
 refine y0.o.mono ?_;rintro e w5 ⟨v5,rfl,I0,n0⟩;have hpl:(pickF (identM n++M) is).length=n:=by rw [fBz];exact HL.o
 have l0:=Kd.dwz (Kd.S_R I0);obtain ⟨A5,c5,rfl, -,l0⟩:=l0;have D0:=Za (k0.o.trans (n0.mono k0.o.size));have R0:=Za (p0.o.below n0);have B0:=Za (Inverse.calls g wb (fun _=>False) A5 c5 (pickF (identM n++M) is) w5 f0.o (eqz (by rw [hpl];exact S0.o) (by omega) (by omega) (by omega) (by omega)) R0.o (fun _ h=>h.elim) l0);rw [hpl,Yb h0.o] at B0;simp only [Yb h0.o] at B0;rw [hpl];clear I0 n0 l0 hpl y0 p0 k0
 go_wp2_with fail
 refine B0.o.mono ?_;rintro e w6 ⟨v6,rfl,H0,Q0,d0⟩;have P0:=Za (Kd.cMz H0 D0.o.size);have U0:=Za (d0.below D0.o T0.o);clear H0 Q0 d0;go_wp2;go_ret2;exact ⟨_,rfl,P0.o,U0.o⟩
end Go.Proofs.Xc
end
