-- Joined texts of this work (wip/tools/bundle.py).
import Derived.Test.YtpdakdcmahlghaaGreatBReconWhich19
set_option maxHeartbeats 4000000
set_option maxRecDepth 100000
set_option linter.unusedVariables false
set_option linter.unusedSimpArgs false
section
namespace Go.Proofs.Xc
open Go.RowKit Go.Proofs.Pw Go.Proofs.Pl Go.Proofs.Pm Tryz
attribute [local go_sem] a7z a8z bgz bhz aVz aWz a9z baz
attribute [local go_sem] Oper.semAt_some
def awz.l (k:Nat) (wb:Int) (first:List (List Int)):List (List Int)->List (List Int)->Option (List (List Int)×Int)
 | [],acc=>some (acc,0)
 |row::rs,acc=>(dotB k wb row first).bind fun t=>awz.l k wb first rs (acc++ [t.1])
def awz.is (K:Nat) (T:List (Nat×List Int)):List Int:=(T.take K).map fun x=>(x.1:Int)
def awz.g (k:Nat) (p:Int) (K M:Nat) (T:List (Nat×List Int)):Option (List (List Int)×Int):=
 if (invF (pbits p) (subM p K M (awz.is K T))).2<K then none else if ayz.small ((T.take K).map Prod.snd)=true then awz.l k (pbits p) ((T.take K).map Prod.snd) ((invF (pbits p) (subM p K M (awz.is K T))).1.map (·.drop K)) [] else none
def awz.f (k:Nat) (a0_0 a0_1 a0_2:Int) (l1:List (List Int)) (l2:List Bool):Option (List (List Int)×Int):=
 (cyz.f a0_0 a0_1 a0_2 l1).bind fun b=>if b=true then (if l2.length=l1.length then (if (thereF 0 l1 l2).length<a0_1.toNat then some ([],5) else if goodL (pbits a0_0) (len0 (thereF 0 l1 l2)) (thereF 0 l1 l2)=true then awz.g k a0_0 a0_1.toNat a0_2.toNat (thereF 0 l1 l2) else some ([],1)) else some ([],1)) else some ([],1)
theorem awz.go (k : Nat) (p : Int) (n mm N0 : Nat) (A1 A2 : Option Addr) (c1 c2 : Nat) (l : List (List Int)) (hv : List Bool) (r1 : List (List Int)) (r2 : Int) (W : World)
  (hf:cyz.f p (n:Int) (mm:Int) l=some true) (h:avz.f p (n:Int) (mm:Int)=some true) (hN:l.length=N0) (o3:hv.length=N0) (s3:N0=n+mm)
  (O2:Kd.C (dM 5 .u8) W A1 l.length l) (P3:l.length<=c1) (A3:Kd.C Kd.bool W A2 hv.length hv)
  (hres:(if (thereF 0 l hv).length<n then some ([],5) else if goodL (pbits p) (len0 (thereF 0 l hv)) (thereF 0 l hv)=true then awz.g k p n mm (thereF 0 l hv) else some ([],1))=some (r1,r2)):
  Calls prog 27 #[.agg #[.int .i64 p, .int .i64 (n:Int), .int .i64 (mm:Int)], .slice A1 N0 c1, .slice A2 N0 c2] W fun e w'=> ∃v,e= .returned (.tuple #[v, .int .i64 r2])/\Kd.S (dM 5 .u8) 34 w' W.heap.size (fun _=>True) v r1/\Below W.heap.size W w':=by
 obtain ⟨p1,p2,k1,k2,m1,m2⟩:=bZz h;have T2:=Za (fun (w1:World) (hB:Below W.heap.size W w1)=>cyz.calls p (n:Int) (mm:Int) A1 c1 l true w1 (Kd.aMz O2 hB) P3 hf);rw [hN] at T2;have l2:=Za (fun (A':Option Addr) (c':Nat) (b:List Int) (w1:World) (hC:Kd.C (Kd.int .u8) w1 A' b.length b) (hc:b.length<=c')=>d4z.calls p (n:Int) (mm:Int) A' c' b (evB (pbits p) b) w1 hC hc (even_ev p p1 p2 (n:Int) (mm:Int) b));have b1:=Za (fun (B:Option Addr) (cb:Nat) (is:List Int) (w1:World)=>recon_inverse.ok p n mm B cb is w1 h);have L3:=Za (dLz.calls p ⟨p1,p2⟩);have R1:=Za (dQz p);have J0:=Za hres;have Y3:=Za O2;have X3:=Za A3;have HN:=Za hN;have H4:=Za o3;have q4:=Za s3;have hu:=underlying23;have HB:=Za (aoz (Zw W.heap.size W) (.cells #[.int .i64 p, .int .i64 (n:Int), .int .i64 (mm:Int)] 23));have HX:=Za (cEz W (.cells #[.int .i64 p, .int .i64 (n:Int), .int .i64 (mm:Int)] 23));have n1:1<=n:=by omega
 have n8:n<=8:=by omega
 have s4:mm<=4:=by omega
 have y4:1<=mm:=by omega
 have L4:N0<=12:=by omega
 have N1:1<=N0:=by omega
 have hself:((N0:Int) !=(N0:Int))=false:=by simp
 clear hf h hN o3 s3 O2 P3 A3 hres p1 p2 k1 k2 m1 m2;refine (callsIn_wide (n:=8)).1 (callsIn_of_wp_marks func27 rfl trivial (wpIn_wide.2 ?_) rfl);simp only [ntmps27,List.size_toArray,List.length_cons,List.length_nil,Nat.reduceAdd,Nat.reduceSub,Array.replicate_succ,Array.replicate_zero,List.push_toArray,List.append_toArray,List.nil_append,List.cons_append]
 go_wp2_with fail
 generalize W.alloc (.cells #[.int .i64 p, .int .i64 (n:Int), .int .i64 (mm:Int)] 23)=w0 at HB HX|-;refine (T2.o w0 HB.o).mono ?_;rintro e w1 ⟨rfl,U2⟩;have J3:=Za (HB.o.trans (U2.mono HB.o.size));have v3:=Za (aNz HX.o U2);clear U2 HX HB T2;have hth:=there.calls A1 A2 N0 c1 N0 c2
 go_wp2_with (first|(go_at_call 58;refine (hth _).mono ?_;rintro e w' ⟨rfl,rfl⟩))
 clear hth;obtain ⟨wb,hwb⟩: ∃wb,pbits p=wb:=⟨_,rfl⟩;rw [hwb] at R1 L3 b1 J0 l2;obtain ⟨T,hT⟩: ∃T,thereF 0 l hv=T:=⟨_,rfl⟩;have Y2:=Za hT;have E4:=Za (show T.length<=12 by rw [<-hT];have:=thereF_le 0 l hv;have:=HN.o;omega);rw [hT] at J0;obtain ⟨L0,P2⟩: ∃L0,len0 T=L0:=⟨_,rfl⟩;have e4:=Za P2;rw [P2] at J0;have I1:=Za hwb;clear hT P2 hwb;have w2:(((((w1.alloc (.cells #[.slice none 0 0] 57)).alloc (.cells #[.slice none 0 0] 24)).alloc (.cells #[.bool true] 4)).alloc (.cells #[.slice A1 N0 c1] 24)).alloc (.cells #[.slice A2 N0 c2] 38)).heap[w1.heap.size]?=some (.cells #[.slice none 0 0] 57 (0,0)):=aPz (aPz (aPz (aPz (cEz w1 _) _) _) _) _;have V1:(((((w1.alloc (.cells #[.slice none 0 0] 57)).alloc (.cells #[.slice none 0 0] 24)).alloc (.cells #[.bool true] 4)).alloc (.cells #[.slice A1 N0 c1] 24)).alloc (.cells #[.slice A2 N0 c2] 38)).heap[w1.heap.size+1]?=some (.cells #[.slice none 0 0] 24 (0,0)):=aPz (aPz (aPz (bBz _ _ _ (by simp)) _) _) _
 have F0:(((((w1.alloc (.cells #[.slice none 0 0] 57)).alloc (.cells #[.slice none 0 0] 24)).alloc (.cells #[.bool true] 4)).alloc (.cells #[.slice A1 N0 c1] 24)).alloc (.cells #[.slice A2 N0 c2] 38)).heap[w1.heap.size+1+1]?=some (.cells #[.bool true] 4 (0,0)):=aPz (aPz (bBz _ _ _ (by simp)) _) _;have v2:(((((w1.alloc (.cells #[.slice none 0 0] 57)).alloc (.cells #[.slice none 0 0] 24)).alloc (.cells #[.bool true] 4)).alloc (.cells #[.slice A1 N0 c1] 24)).alloc (.cells #[.slice A2 N0 c2] 38)).heap[w1.heap.size+1+1+1]?=some (.cells #[.slice A1 N0 c1] 24 (0,0)):=aPz (bBz _ _ _ (by simp)) _;have a2:(((((w1.alloc (.cells #[.slice none 0 0] 57)).alloc (.cells #[.slice none 0 0] 24)).alloc (.cells #[.bool true] 4)).alloc (.cells #[.slice A1 N0 c1] 24)).alloc (.cells #[.slice A2 N0 c2] 38)).heap[w1.heap.size+1+1+1+1]?=some (.cells #[.slice A2 N0 c2] 38 (0,0)):=bBz _ _ _ (by simp);have y2:Below w1.heap.size w1 (((((w1.alloc (.cells #[.slice none 0 0] 57)).alloc (.cells #[.slice none 0 0] 24)).alloc (.cells #[.bool true] 4)).alloc (.cells #[.slice A1 N0 c1] 24)).alloc (.cells #[.slice A2 N0 c2] 38)):=cGz (cGz (cGz (cGz (aoz (Zw _ _) _) (aoz (Zw _ _) _)) (aoz (Zw _ _) _)) (aoz (Zw _ _) _)) (aoz (Zw _ _) _)
 have hsz:(((((w1.alloc (.cells #[.slice none 0 0] 57)).alloc (.cells #[.slice none 0 0] 24)).alloc (.cells #[.bool true] 4)).alloc (.cells #[.slice A1 N0 c1] 24)).alloc (.cells #[.slice A2 N0 c2] 38)).heap.size=w1.heap.size+1+1+1+1+1:=by simp
 generalize ((((w1.alloc (.cells #[.slice none 0 0] 57)).alloc (.cells #[.slice none 0 0] 24)).alloc (.cells #[.bool true] 4)).alloc (.cells #[.slice A1 N0 c1] 24)).alloc (.cells #[.slice A2 N0 c2] 38)=w4 at w2 V1 F0 v2 a2 y2 hsz|-;obtain ⟨b,hb⟩: ∃b,b=w1.heap.size:=⟨_,rfl⟩;have hB4':=J3.o.trans (y2.mono J3.o.size);have C3:=Za (aNz v3.o y2);have J4:W.heap.size<b:=hb▸aUz v3.o;rw [<-hb] at w2 V1 F0 v2 a2 hsz|-;have D4:=Za w2;have G4:=Za V1;have J2:=Za F0;have d4:=Za v2;have o4:=Za a2;have Q1:=Za hB4';have g0:=Za hsz;have O3:=Za (show Kd.F (dM 5 .u8) w4 (fun k=> ¬(k=b\/k=b+1\/k=b+1+1)) A1 l.length l from Kd.cdz (Kd.csz (C_F (Kd.e7z _ (Kd.heap_int _)) Y3.o) (fun k hk _=>hB4'.block k hk)) (fun k hk h=>by have:k<W.heap.size:=hk;omega));have N3:=Za (show Kd.F Kd.bool w4 (fun k=> ¬(k=b\/k=b+1\/k=b+1+1)) A2 hv.length hv from Kd.cdz (Kd.csz (C_F Kd.heap_bool X3.o) (fun k hk _=>hB4'.block k hk)) (fun k hk h=>by have:k<W.heap.size:=hk;omega))
 clear w2 V1 F0 v2 a2 hsz y2 hB4' hb;refine (wpIn_wide (n:=8)).1 ?_
 refine e4z (α:=ThX) rfl (by omega) (gf:=93) (lb:= #[.pointer (some ⟨b+1+1+1,0,none⟩), .pointer (some ⟨b+1+1+1+1,0,none⟩)]) rfl trivial (enters_of func93 kr_ rfl)
  (there_seq (b+1+1+1) (b+1+1+1+1) w4.heap.size N0 c1 c2 (fun k=>k=b\/k=b+1\/k=b+1+1) A1 A2 l hv w4 w4 O3.o N3.o (Zv _) (Zv _) ⟨Zv _,fun _ _ _=>rfl⟩ HN.o H4.o (by omega) N1 d4.o o4.o ⟨by have:=g0.o;omega,by omega⟩ ⟨by have:=g0.o;omega,by omega⟩) KpX.trans ?hKb (Zw _ _) (fun _=>rfl)
  (fun pre Wx=> ∃v8 v9,Wx.heap[b]?=some (.cells #[v8] 57 (0,0))/\Wx.heap[b+1]?=some (.cells #[v9] 24 (0,0))/\Wx.heap[b+1+1]?=some (.cells #[.bool (goodL wb L0 (pre.map thK))] 4 (0,0))/\(Kd.int .i64).R 3 Wx w4.heap.size (fun _=>True) v8 ((pre.take n).map fun x=>(x.1:Int))/\slK.R 34 Wx w4.heap.size (fun _=>True) v9 (pre.take n)/\RX w4.heap.size b (b+1) (b+1+1) w4 Wx/\(∀x,x∈pre->ThOk Wx (fun k=> ¬(k=b\/k=b+1\/k=b+1+1)/\k<w4.heap.size) x)/\pre.map thK=T.take pre.length)
  ?hI ?hHd ?h0 (fun x=> { tmps:= #[.agg #[.int .i64 p, .int .i64 (n:Int), .int .i64 (mm:Int)], .slice A1 N0 c1, .slice A2 N0 c2, .pointer (some ⟨W.heap.size,0,none⟩),undef,undef, .slice none 0 0, .int .i64 0, .pointer (some ⟨b,0,none⟩), .pointer (some ⟨b+1,0,none⟩), .pointer (some ⟨b+1+1,0,none⟩), .int .i64 (x.1:Int), .slice x.2.1 x.2.2.2.length x.2.2.1,undef,undef,undef,undef,undef,undef,undef, .agg #[.int .i64 p, .int .i64 (n:Int), .int .i64 (mm:Int)], .slice A1 N0 c1, .bool true, .bool false, .bool false, .slice A2 N0 c2, .int .i64 (N0:Int), .slice A1 N0 c1, .int .i64 (N0:Int), .bool false, .bool false, .slice A1 N0 c1, .slice A2 N0 c2, .func (.func 93) #[] #[.pointer (some ⟨b+1+1+1,0,none⟩), .pointer (some ⟨b+1+1+1+1,0,none⟩)], .int .i64 (x.1:Int), .slice x.2.1 x.2.2.2.length x.2.2.1,undef,undef,undef,undef,undef,undef,undef,undef,undef,undef,undef,undef,undef,undef,undef,undef,undef,undef,undef,undef,undef,undef,undef,undef,undef,undef,undef,undef,undef,undef,undef,undef,undef,undef,undef,undef,undef,undef,undef,undef,undef,undef,undef,undef,undef,undef,undef,undef,undef,undef,undef,undef,undef,undef,undef,undef,undef,undef,undef,undef,undef,undef,undef,undef,undef,undef,undef],defers:= [] }) ?assign ?body ?done
 case hKb=>exact fun Wx l o o' hl ho _=>⟨(grownBy_putObj' Wx l o').size,fun k hk _=>World.putObj_heap_other (by omega)⟩
 case hI=>
  rintro s X Y r ⟨v8,v9,h1,h2,h3,h4,h5,h6,h7,h8⟩ hg hr;have hr': ∀q,r=some q-> ∃o:Obj,X.heap[q]?=some o/\o.isCells=false:=fun q e=>(hr q e).2
  refine ⟨v8,v9,(grownBy_keeps_cells hg hr' h1 rfl).trans h1,(grownBy_keeps_cells hg hr' h2 rfl).trans h2,(grownBy_keeps_cells hg hr' h3 rfl).trans h3,faz h4 hg hr',slK_noncells h5 hg hr',⟨hg.os.trans h6.os,hg.tape.trans h6.tape,hg.output.trans h6.output,Zt h6.size hg.size,fun k hk q1 q2 q3=>(hg.block k (Zp hk h6.size) (fun e=>by have:=(hr k e.symm).1;omega)).trans (h6.block k hk q1 q2 q3),fun k o ho hn=>(hg.block k (Zp (aUz ho) h6.size) (fun e=>by have:=(hr k e.symm).1;have:=aUz ho;omega)).trans (h6.walks k o ho hn)⟩,fun x hx=>(h7 x hx).move (fun k hk _=>hg.block k (Zp hk.2 h6.size) (fun e=>by have:=(hr k e.symm).1;have:=hk.2;omega)),h8⟩
 case hHd=>
  rintro m x - X Y r ⟨h0,h1,h2⟩ hg hr;exact ⟨h0,h1,Kd.csz h2 (fun k hk hlt=>hg.block k hlt (fun e=>by have:=(hr k e.symm).1;have:=hk.2;omega))⟩
 case h0=>exact ⟨_,_,D4.o,G4.o,J2.o,(by rw [List.take_nil];exact Kd.R_nil _ _ _ _ _),(by rw [List.take_nil];exact Kd.R_nil _ _ _ _ _),RX.refl _ _ _ _ _,fun _ h=>by simp at h,rfl⟩
 case assign=>
  intro l' x Wx K hK
  gi_wp2
  exact hK
 case body=>
  rintro l' pre ⟨i,A',c',bb⟩ Wx ⟨v8,v9,h1,h2,h3,h4,h5,h6,h7,h8⟩ ⟨P1,R2,E2⟩ hlen;dsimp only at P1 R2 E2|-;rw [Y2.o] at P1 hlen;obtain ⟨nb,hnb⟩: ∃nb,bb.length=nb:=⟨_,rfl⟩;have Z1:=Za hnb;rw [hnb];have v1:=Za (show ThOk Wx (fun k=> ¬(k=b\/k=b+1\/k=b+1+1)/\k<w4.heap.size) ((i,A',c',bb):ThX) from ⟨R2,E2⟩);have i4:=Za (show slE ((i,A',c',bb):ThX)= .slice A' nb c' by rw [<-hnb];rfl)
  have i3:=Za (show (pre++ [((i,A',c',bb):ThX)]).map thK=T.take (pre++ [((i,A',c',bb):ThX)]).length by
   rw [List.map_append,h8,List.length_append,List.length_singleton,List.take_add_one,P1]
   rfl)
  have Q3:=Za (show∃x0:ThX,((pre++ [((i,A',c',bb):ThX)]).take n)[0]?=some x0/\x0.2.2.2.length=L0 by
   obtain ⟨x0,f0⟩: ∃x0,(pre++ [((i,A',c',bb):ThX)])[0]?=some x0:=⟨_,Zf (by simp)⟩;refine ⟨x0,by rw [List.getElem?_take];rw [Ya (by omega)];exact f0,?_⟩;have e1:((pre++ [((i,A',c',bb):ThX)]).map thK)[0]?=some (thK x0):=by rw [List.getElem?_map,f0];rfl
   rw [i3.o,List.getElem?_take,Ya (by simp)] at e1;have e2:=e4.o;unfold len0 at e2;rw [Zm,e1] at e2
   exact e2)
  have Z3:=Za (show pre.length<12 by have:=E4.o;omega);obtain ⟨A8,c8,rfl⟩:=Kd.aQz h4;obtain ⟨A9,c9,rfl⟩:=Kd.aQz h5;have K1:=Za (own_ne (Kd.dTz h5) (Kd.dTz h4) (by decide));have E0:=Kd.cbz h4;have o1:=Kd.cbz h5;have A0:=Kd.R_lt h4;have C2:=Kd.R_lt h5;have E1:=Za (Kd.dTz h4);have G0:=Za (show w4.heap.size<=Wx.heap.size from h6.size);have M0:=Za (h6.blk C3.o (by have:=g0.o;omega) (by omega) (by omega) (by omega));have H3:=Za h6;have z3:=Za h7;have q1:Wx.cell? ⟨W.heap.size,1,none⟩=some (.int .i64 (n:Int)):=(abz M0.o 1).trans rfl;obtain ⟨m9,v0⟩: ∃m,(pre.take n).length=m:=⟨_,rfl⟩;have W2:((pre.take n).map fun x=>(x.1:Int)).length=m9:=by rw [List.length_map];exact v0
  have T0:=Za (show m9=min n pre.length by rw [<-v0,List.length_take]);rw [W2] at h1 h4 E0 A0 E1 K1;rw [v0] at h2 h5 o1 C2 K1;have z2:=Za h4;have H2:=Za h5;have n2:=Za h3;have D0:Wx.cell? ⟨b,0,none⟩=some (.slice A8 m9 c8):=(abz h1 0).trans rfl;have C0:Wx.cell? ⟨b+1,0,none⟩=some (.slice A9 m9 c9):=(abz h2 0).trans rfl;have e0:=Za (show some b≠(Value.slice A8 m9 c8).ownBlock/\some (b+1)≠(Value.slice A8 m9 c8).ownBlock/\some (b+1+1)≠(Value.slice A8 m9 c8).ownBlock from ⟨fun e=>by have:=E0 _ e.symm;have:=g0.o;omega,fun e=>by have:=E0 _ e.symm;have:=g0.o;omega,fun e=>by have:=E0 _ e.symm;have:=g0.o;omega⟩);have Y0:=Za (show some b≠(Value.slice A9 m9 c9).ownBlock/\some (b+1)≠(Value.slice A9 m9 c9).ownBlock/\some (b+1+1)≠(Value.slice A9 m9 c9).ownBlock from ⟨fun e=>by have:=o1 _ e.symm;have:=g0.o;omega,fun e=>by have:=o1 _ e.symm;have:=g0.o;omega,fun e=>by have:=o1 _ e.symm;have:=g0.o;omega⟩)
  have O0:=Za (show some Wx.heap.size≠(Value.slice A8 m9 c8).ownBlock/\some (Wx.heap.size+1)≠(Value.slice A8 m9 c8).ownBlock from ⟨fun e=>by have:=A0 _ e.symm;omega,fun e=>by have:=A0 _ e.symm;omega⟩);have X1:=Za (show ((pre.take n).map fun x=>(x.1:Int)).length<=12/\(pre.take n).length<=12 by rw [W2,v0];have:=Z3.o;have:=T0.o;omega);have B4:=Za C2;have O1:=Za o1;have p0:=Za E0;have S1:=Za h1;have Q0:=Za h2;have hmo:prog.follows .mixedOrders=true:=by kernel_rfl
  clear P1 R2 E2 hnb h1 h2 h3 h4 h5 h6 h7 h8 E0 o1 A0 C2 W2 v0 hlen;by_cases hlt:pre.length<n
  ·have hj:((m9:Int)<(n:Int)):=by have:=T0.o;omega
   have l3:=Za (show (pre++ [((i,A',c',bb):ThX)]).take n=pre.take n++ [((i,A',c',bb):ThX)] by
    rw [List.take_of_length_le (by simp;omega),List.take_of_length_le (l:=pre) (by omega)])
   have j4 := Za (show ∀ (y0 k0 : World) (i0 P0 : Value), Wx.grownBy y0 (Value.slice A8 m9 c8).ownBlock -> (Kd.int .i64).R 3 y0 w4.heap.size (fun _ => True) i0 ((pre.take n).map (fun x => (x.1 : Int)) ++ [(i : Int)]) -> (i0.ownBlock = (Value.slice A8 m9 c8).ownBlock \/ ∃ q, i0.ownBlock = some q /\ Wx.heap.size <= q) ->
     slK.R 34 k0 w4.heap.size (fun _=>True) P0 (pre.take n++ [((i,A',c',bb):ThX)])->y0.grownBy k0 (Value.slice A9 m9 c9).ownBlock->
     k0.cell? ⟨b,0,none⟩=some (.slice A8 m9 c8)/\k0.frozen? ⟨b,0,none⟩=false/\k0.cell? ⟨b+1,0,none⟩=some (.slice A9 m9 c9)/\(k0.setCell ⟨b,0,none⟩ i0).cell? ⟨b+1,0,none⟩=some (.slice A9 m9 c9)/\(k0.setCell ⟨b,0,none⟩ i0).frozen? ⟨b+1,0,none⟩=false/\(fun wy=> ∃y8 y9,wy.heap[b]?=some (.cells #[y8] 57 (0,0))/\wy.heap[b+1]?=some (.cells #[y9] 24 (0,0))/\wy.heap[b+1+1]?=some (.cells #[.bool (goodL wb L0 (pre.map thK))] 4 (0,0))/\(Kd.int .i64).R 3 wy w4.heap.size (fun _=>True) y8 (((pre++ [((i,A',c',bb):ThX)]).take n).map fun x=>(x.1:Int))/\slK.R 34 wy w4.heap.size (fun _=>True) y9 ((pre++ [((i,A',c',bb):ThX)]).take n)/\RX w4.heap.size b (b+1) (b+1+1) Wx wy) ((k0.setCell ⟨b,0,none⟩ i0).setCell ⟨b+1,0,none⟩ P0) by
    intro y0 k0 i0 P0 f1 f2 f3 k1 k3;have g1:=(k3.block b (Zp (aUz S1.o) f1.size) Y0.o.1).trans ((f1.block b (aUz S1.o) e0.o.1).trans S1.o);have g2:=(k3.block (b+1) (Zp (aUz Q0.o) f1.size) Y0.o.2.1).trans ((f1.block (b+1) (aUz Q0.o) e0.o.2.1).trans Q0.o);have g3:=(k3.block (b+1+1) (Zp (aUz n2.o) f1.size) Y0.o.2.2).trans ((f1.block (b+1+1) (aUz n2.o) e0.o.2.2).trans n2.o);have B2: ∀k,k≠b->(k0.setCell ⟨b,0,none⟩ i0).heap[k]?=k0.heap[k]?:=fun k hk=>Below.heap_setCell k0 ⟨b,0,none⟩ i0 k hk
    have o2: ∀k,k≠b+1->((k0.setCell ⟨b,0,none⟩ i0).setCell ⟨b+1,0,none⟩ P0).heap[k]?=(k0.setCell ⟨b,0,none⟩ i0).heap[k]?:=fun k hk=>Below.heap_setCell _ ⟨b+1,0,none⟩ P0 k hk
    have g2':(k0.setCell ⟨b,0,none⟩ i0).heap[b+1]?=some (.cells #[.slice A9 m9 c9] 24 (0,0)):=(B2 (b+1) (by omega)).trans g2;have z4:slK.R 34 y0 w4.heap.size (fun _=>True) (.slice A9 m9 c9) (pre.take n):=slK_grow H2.o f1 K1.o
    have p4:=int_grow f2 k3 (fun k hk he=>by
     rcases f3 with f3|⟨q,f3,f4⟩
     ·exact K1.o k he.symm (hk.symm.trans f3)
     ·rw [f3] at hk;cases hk
      have:=B4.o _ he.symm
      omega)
    refine ⟨(abz g1 0).trans rfl,bbz g1 0,(abz g2 0).trans rfl,(abz g2' 0).trans rfl,bbz g2' 0,i0,P0,(o2 b (by omega)).trans (coz g1 0 i0 rfl),coz g2' 0 P0 rfl,(o2 _ (by omega)).trans ((B2 _ (by omega)).trans g3),?_,?_,?_⟩
    ·rw [l3.o,List.map_append];exact Kd.aKz (Kd.cvz (Kd.bUz p4) (fun k hk=>(o2 k (by have:=hk.2.1;have:=g0.o;omega)).trans (B2 k (by have:=hk.2.1;have:=g0.o;omega)))) (fun _ _=>trivial)
    ·rw [l3.o];exact Kd.aKz (Kd.cvz (Kd.bUz k1) (fun k hk=>(o2 k (by have:=hk.2.1;have:=g0.o;omega)).trans (B2 k (by have:=hk.2.1;have:=g0.o;omega)))) (fun _ _=>trivial)
    ·refine (((RX.of_grown f1 G0.o (fun q hq=>⟨p0.o q hq,?_⟩)).trans (RX.of_grown k3 (Zt G0.o f1.size) (fun q hq=>⟨O1.o q hq,?_⟩))).trans (RX.of_set g1 (.inl rfl))).trans (RX.of_set g2' (.inr (.inl rfl)))
     ·obtain ⟨cells,hc⟩:=E1.o q hq;exact ⟨cells,_,_,hc⟩
     ·obtain ⟨cells,hc⟩:=Kd.dTz z4 q hq
      exact ⟨cells,_,_,hc⟩)
   clear l3
   gi_wp2
   refine startIn_ (m:=10) (S:=fun w'=>w'.cell? ⟨b,0,none⟩=some (.slice A8 m9 c8)/\w'.cell? ⟨b+1,0,none⟩=some (.slice A9 m9 c9)) (ds:= [8,9]) (bA 10 0) kr_ rfl rfl kr_ (by rintro ⟨_,_,h⟩;exact h) ⟨D0,C0⟩ (fun hHeld=> ?_);refine pu_ 1 42 2 ?_;refine pu_ 5 46 34 ?_;refine tk_ 0 41 35 hHeld ?_;refine tk_ 4 45 51 hHeld ?_;refine join_ (σ:=Nat×Nat×Value) 3 (bA 10 127) (fun s=> [(43, .slice (some ⟨s.1,0,none⟩) 1 1),(44,s.2.2),(47, .slice (some ⟨s.2.1,0,none⟩) 1 1)]) (fun s w'=>Wx.grownBy w' (Value.slice A8 m9 c8).ownBlock/\(Kd.int .i64).R 3 w' w4.heap.size (fun _=>True) s.2.2 ((pre.take n).map (fun x=>(x.1:Int))++ [(i:Int)])/\(s.2.2.ownBlock=(Value.slice A8 m9 c8).ownBlock\/ ∃q,s.2.2.ownBlock=some q/\Wx.heap.size<=q)/\w'.heap[s.2.1]?=some (.cells #[.slice A' nb c'] 34 (0,0))/\Wx.heap.size<=s.2.1) ?_ ?_;rotate_left
   ·intro u0;refine two_ (i:=2) (j:=6) (Ni:=some 43) (Nj:=some 47) (bA 10 55) (bA 10 115) rfl rfl rfl rfl kr_ (by decide) (by decide) (fun K hK=> ?_) (fun K hK=> ?_)
    ·skip
     refine chz (w1:= ?_) (v:= ?_) (by rfl) rfl ?_ ?_;rotate_left 2
     ·go_simp;constructor
      ·rfl
      ·rfl
     refine hK.out _ _ ⟨cpast _ (D0),cpast _ (C0)⟩ (fun hHeld=> ?_);clear hK K;refine norm_ (a':= ?_) ?_ ?_;rotate_left
     ·show Act.put _ (some 43) _=_;simp only [Act.put,Zg,Zh,Zi,i64_w,i32_w];rfl
     refine two_ (i:=3) (j:=6) (Ni:=some 44) (Nj:=some 47) (bA 10 63) (bA 10 119) rfl rfl rfl rfl kr_ (by decide) (by decide) (fun K hK=> ?_) (fun K hK=> ?_)
     ·skip
      refine Kd.cXz (Kd.int .i64) (Rr:=fun (y:Int) cs=>cs= [Value.int .i64 y]) (w0:=(Wx.alloc (.cells #[.int .i64 (i:Int)] 3)).drew) w4.heap.size rfl (.tmp 41) (.tmp 43) 57 3 (.int .i64 0) 8 rfl underlying57 kr_ rfl (by decide) (by decide) (.slice A8 m9 c8) ((pre.take n).map fun x=>(x.1:Int)) [(i:Int)] (some ⟨Wx.heap.size,0,none⟩) 1 1 (fun _=>True) (fun _=>False) rfl rfl (Kd.cBz (Kd.c4z (z2.o) _)) (rr_one (Value.int .i64) (heap_alloc_new Wx (.cells #[.int .i64 (i:Int)] 3))) (fun _ _ h=>h) (fun _ h=>h.elim) (fun _ _=>trivial) (Zw _ _) (by have:=G0.o;simp;omega) (by have:=X1.o;simp only [List.length_map] at this|-;omega) ?_;intro i0 Y1 g1 g2 g3 g4;refine hK.out _ _ ⟨cgrow (show ((Wx.alloc (.cells #[.int .i64 (i:Int)] 3)).drew).cell? ⟨b,0,none⟩=some (.slice A8 m9 c8) from cpast _ (D0)) g3 e0.o.1,cgrow (show ((Wx.alloc (.cells #[.int .i64 (i:Int)] 3)).drew).cell? ⟨b+1,0,none⟩=some (.slice A9 m9 c9) from cpast _ (C0)) g3 e0.o.2.1⟩ (fun hHeld=> ?_)
      clear hK K;refine norm_ (a':= ?_) ?_ ?_;rotate_left
      ·show Act.put _ (some 44) _=_;simp only [Act.put,Zg,Zh,Zi,i64_w,i32_w];rfl
      refine one_ (i:=6) (N:=some 47) (bA 10 127) rfl rfl kr_ (by decide) (fun K hK=> ?_);refine chz (w1:= ?_) (v:= ?_) (by rfl) rfl ?_ ?_;rotate_left 2
      ·go_simp;constructor
       ·rfl
       ·rfl
      refine hK.out _ _ ⟨cpast _ hHeld.1,cpast _ hHeld.2⟩ (fun hHeld=> ?_);clear hK K;refine norm_ (a':= ?_) ?_ ?_;rotate_left
      ·show Act.put _ (some 47) _=_;simp only [Act.put,Zg,Zh,Zi,i64_w,i32_w];rfl
      exact norm_ (by simp only [putAll,Act.put,Zg,Zh,Zi]) (u0 (Wx.heap.size,Y1.heap.size,i0) _ ⟨gall (gtr (gdr (gall (World.grownBy.refl Wx _) (.cells #[.int .i64 (i:Int)] 3))) g3) (.cells #[.slice A' nb c'] 34),Kd.c4z g1 _,g4.imp id (fun ⟨q,e1,e2⟩=>⟨q,e1,Zt (by simp) e2⟩),heap_alloc_new Y1 (.cells #[.slice A' nb c'] 34),Zt (by simp) g3.size⟩)
     ·skip
      refine chz (w1:= ?_) (v:= ?_) (by rfl) rfl ?_ ?_;rotate_left 2
      ·go_simp;constructor
       ·rfl
       ·rfl
      refine hK.out _ _ ⟨cpast _ (cpast _ (D0)),cpast _ (cpast _ (C0))⟩ (fun hHeld=> ?_);clear hK K;refine norm_ (a':= ?_) ?_ ?_;rotate_left
      ·show Act.put _ (some 47) _=_;simp only [Act.put,Zg,Zh,Zi,i64_w,i32_w];rfl
      refine one_ (i:=3) (N:=some 44) (bA 10 127) rfl rfl kr_ (by decide) (fun K hK=> ?_);refine Kd.cXz (Kd.int .i64) (Rr:=fun (y:Int) cs=>cs= [Value.int .i64 y]) (w0:=((Wx.alloc (.cells #[.int .i64 (i:Int)] 3)).alloc (.cells #[.slice A' nb c'] 34)).drew) w4.heap.size rfl (.tmp 41) (.tmp 43) 57 3 (.int .i64 0) 8 rfl underlying57 kr_ rfl (by decide) (by decide) (.slice A8 m9 c8) ((pre.take n).map fun x=>(x.1:Int)) [(i:Int)] (some ⟨Wx.heap.size,0,none⟩) 1 1 (fun _=>True) (fun _=>False) rfl rfl (Kd.cBz (Kd.c4z (Kd.c4z (z2.o) _) _)) (rr_one (Value.int .i64) (aPz (heap_alloc_new Wx (.cells #[.int .i64 (i:Int)] 3)) (.cells #[.slice A' nb c'] 34))) (fun _ _ h=>h) (fun _ h=>h.elim) (fun _ _=>trivial) (Zw _ _) (by have:=G0.o;simp;omega) (by have:=X1.o;simp only [List.length_map] at this|-;omega) ?_;intro i0 Y1 g1 g2 g3 g4;refine hK.out _ _ ⟨cgrow (show (((Wx.alloc (.cells #[.int .i64 (i:Int)] 3)).alloc (.cells #[.slice A' nb c'] 34)).drew).cell? ⟨b,0,none⟩=some (.slice A8 m9 c8) from cpast _ (cpast _ (D0))) g3 e0.o.1,cgrow (show (((Wx.alloc (.cells #[.int .i64 (i:Int)] 3)).alloc (.cells #[.slice A' nb c'] 34)).drew).cell? ⟨b+1,0,none⟩=some (.slice A9 m9 c9) from cpast _ (cpast _ (C0))) g3 e0.o.2.1⟩ (fun hHeld=> ?_)
      clear hK K;refine norm_ (a':= ?_) ?_ ?_;rotate_left
      ·show Act.put _ (some 44) _=_;simp only [Act.put,Zg,Zh,Zi,i64_w,i32_w];rfl
      exact norm_ (by simp only [putAll,Act.put,Zg,Zh,Zi]) (u0 (Wx.heap.size,Wx.heap.size+1,i0) _ ⟨gtr (gdr (gall (gall (World.grownBy.refl Wx _) (.cells #[.int .i64 (i:Int)] 3)) (.cells #[.slice A' nb c'] 34))) g3,g1,g4.imp id (fun ⟨q,e1,e2⟩=>⟨q,e1,Zt (by simp;omega) e2⟩),(g3.block _ (by simp) O0.o.2).trans (bBz (Wx.alloc (.cells #[.int .i64 (i:Int)] 3)) (.cells #[.slice A' nb c'] 34) _ (by simp)),(show Wx.heap.size<=Wx.heap.size+1 by omega)⟩)
    ·skip
     refine chz (w1:= ?_) (v:= ?_) (by rfl) rfl ?_ ?_;rotate_left 2
     ·go_simp;constructor
      ·rfl
      ·rfl
     refine hK.out _ _ ⟨cpast _ (D0),cpast _ (C0)⟩ (fun hHeld=> ?_);clear hK K;refine norm_ (a':= ?_) ?_ ?_;rotate_left
     ·show Act.put _ (some 47) _=_;simp only [Act.put,Zg,Zh,Zi,i64_w,i32_w];rfl
     refine one_ (i:=2) (N:=some 43) (bA 10 119) rfl rfl kr_ (by decide) (fun K hK=> ?_);refine chz (w1:= ?_) (v:= ?_) (by rfl) rfl ?_ ?_;rotate_left 2
     ·go_simp;constructor
      ·rfl
      ·rfl
     refine hK.out _ _ ⟨cpast _ (cpast _ (D0)),cpast _ (cpast _ (C0))⟩ (fun hHeld=> ?_);clear hK K;refine norm_ (a':= ?_) ?_ ?_;rotate_left
     ·show Act.put _ (some 43) _=_;simp only [Act.put,Zg,Zh,Zi,i64_w,i32_w];rfl
     refine one_ (i:=3) (N:=some 44) (bA 10 127) rfl rfl kr_ (by decide) (fun K hK=> ?_);refine Kd.cXz (Kd.int .i64) (Rr:=fun (y:Int) cs=>cs= [Value.int .i64 y]) (w0:=((Wx.alloc (.cells #[.slice A' nb c'] 34)).alloc (.cells #[.int .i64 (i:Int)] 3)).drew) w4.heap.size rfl (.tmp 41) (.tmp 43) 57 3 (.int .i64 0) 8 rfl underlying57 kr_ rfl (by decide) (by decide) (.slice A8 m9 c8) ((pre.take n).map fun x=>(x.1:Int)) [(i:Int)] (some ⟨Wx.heap.size+1,0,none⟩) 1 1 (fun _=>True) (fun _=>False) rfl rfl (Kd.cBz (Kd.c4z (Kd.c4z (z2.o) _) _)) (rr_one (Value.int .i64) (bBz (Wx.alloc (.cells #[.slice A' nb c'] 34)) (.cells #[.int .i64 (i:Int)] 3) _ (by simp))) (fun _ _ h=>h) (fun _ h=>h.elim) (fun _ _=>trivial) (Zw _ _) (by have:=G0.o;simp;omega) (by have:=X1.o;simp only [List.length_map] at this|-;omega) ?_;intro i0 Y1 g1 g2 g3 g4;refine hK.out _ _ ⟨cgrow (show (((Wx.alloc (.cells #[.slice A' nb c'] 34)).alloc (.cells #[.int .i64 (i:Int)] 3)).drew).cell? ⟨b,0,none⟩=some (.slice A8 m9 c8) from cpast _ (cpast _ (D0))) g3 e0.o.1,cgrow (show (((Wx.alloc (.cells #[.slice A' nb c'] 34)).alloc (.cells #[.int .i64 (i:Int)] 3)).drew).cell? ⟨b+1,0,none⟩=some (.slice A9 m9 c9) from cpast _ (cpast _ (C0))) g3 e0.o.2.1⟩ (fun hHeld=> ?_)
     clear hK K;refine norm_ (a':= ?_) ?_ ?_;rotate_left
     ·show Act.put _ (some 44) _=_;simp only [Act.put,Zg,Zh,Zi,i64_w,i32_w];rfl
     exact norm_ (by simp only [putAll,Act.put,Zg,Zh,Zi]) (u0 (Wx.heap.size+1,Wx.heap.size,i0) _ ⟨gtr (gdr (gall (gall (World.grownBy.refl Wx _) (.cells #[.slice A' nb c'] 34)) (.cells #[.int .i64 (i:Int)] 3))) g3,g1,g4.imp id (fun ⟨q,e1,e2⟩=>⟨q,e1,Zt (by simp;omega) e2⟩),(g3.block _ (by simp;omega) O0.o.1).trans (aPz (heap_alloc_new Wx (.cells #[.slice A' nb c'] 34)) _),Zv _⟩)
   rintro ⟨m2,m6,i0⟩ y0 ⟨f1,f2,f3,f4,f5⟩;dsimp only at f2 f3 f4 f5|-;obtain ⟨v4,V3,rfl⟩:=Kd.aQz f2;obtain ⟨u4,J1⟩: ∃m,((pre.take n).map (fun x=>(x.1:Int))++ [(i:Int)]).length=m:=⟨_,rfl⟩;rw [J1] at f2 f3|-;clear J1;have hHeld:y0.cell? ⟨b,0,none⟩=some (.slice A8 m9 c8)/\y0.cell? ⟨b+1,0,none⟩=some (.slice A9 m9 c9):=⟨cgrow D0 f1 e0.o.1,cgrow C0 f1 e0.o.2.1⟩;have HR9':=Za (slK_grow H2.o f1 K1.o);refine norm_ (a':= ?_) ?_ ?_;rotate_left
   ·simp only [putAll,Act.put,Zg,Zh,Zi];rfl
   refine one_ (i:=7) (N:=some 48) (bA 10 255) rfl rfl kr_ (by decide) (fun K hK=> ?_);refine Kd.cXz slK (Rr:=fun (y:ThX) cs=>cs= [slE y]) (w0:=y0) w4.heap.size rfl (.tmp 45) (.tmp 47) 24 34 (.slice none 0 0) 24 rfl underlying24 kr_ rfl (by decide) (by decide) (.slice A9 m9 c9) (pre.take n) [(i,A',c',bb)] (some ⟨m6,0,none⟩) 1 1 (fun _=>True) (fun _=>False) rfl rfl HR9'.o (rr_one slE (x:=(i,A',c',bb)) (i4.o.symm▸f4)) (fun _ _ h=>h) (fun _ h=>h.elim) (fun _ _=>trivial) (Zw _ _) (Zt G0.o f1.size) (by have:=X1.o;simp only [List.length_map] at this|-;omega) ?_;intro P0 k0 k1 k2 k3 k4;obtain ⟨b4,T3,rfl⟩:=Kd.aQz k1;generalize (pre.take n++ [((i,A',c',bb):ThX)]).length=n48 at k1|-;obtain ⟨r1,r2,r3,r4,r5,r6⟩:=j4.o y0 k0 _ _ f1 f2 f3 k1 k3;have R6:=Za r6;clear r6;refine hK.out _ _ ⟨r1,r3⟩ (fun hHeld=> ?_);clear hK K;refine norm_ (a':= ?_) ?_ ?_;rotate_left
   ·show Act.put _ (some 48) _=_;simp only [Act.put,Zg,Zh,Zi,i64_w,i32_w];rfl
   refine last_ (i:=8) (N:=none) (bA 10 511) rfl rfl kr_ (by decide) (fun K hK=> ?_);refine skip_ (w1:= ?_) (by rfl) rfl ?_ ?_;rotate_left
   ·go_simp;rfl
   refine hK.out _ _ ?_;clear hK K;refine last_ (i:=9) (N:=none) (bA 10 1023) rfl rfl kr_ (by decide) (fun K hK=> ?_);refine skip_ (w1:= ?_) (by rfl) rfl ?_ ?_;rotate_left
   ·go_simp;rfl
   refine hK.out _ _ ?_;clear hK K;refine done_ kr_ ?_;have HQ:=Za R6.o
   try dsimp only at HQ
   generalize (k0.setCell ⟨b,0,none⟩ (.slice v4 u4 V3)).setCell ⟨b+1,0,none⟩ (.slice b4 n48 T3)=wy at HQ|-;clear R6;obtain ⟨y8,y9,t1,t2,t3,t4,t5,t6⟩:=HQ.o;obtain ⟨Y9,d9,rfl⟩:=Kd.aQz t5;obtain ⟨x0,f0,G1⟩:=Q3.o;obtain ⟨H0,rfl,b0⟩:=slK_cell0 t5 f0;rw [show slE x0= .slice x0.2.1 L0 x0.2.2.1 by unfold slE;rw [G1]] at b0;obtain ⟨my,R0⟩: ∃m,((pre++ [((i,A',c',bb):ThX)]).take n).length=m:=⟨_,rfl⟩;have j3:0<my:=by rw [<-R0];exact (Zk f0).1
   have F2:(0:Int)<(my:Int):=by omega
   rw [R0] at t2 t5;have e9:wy.cell? ⟨b+1,0,none⟩=some (.slice (some H0) my d9):=(abz t2 0).trans rfl;have K0:wy.cell? ⟨b+1+1,0,none⟩=some (.bool (goodL wb L0 (pre.map thK))):=(abz t3 0).trans rfl;have o0:=bbz t3 0;have I0:=t6.blk M0.o (by have:=g0.o;omega) (by omega) (by omega) (by omega);have q0:wy.cell? ⟨W.heap.size,0,none⟩=some (.int .i64 p):=(abz I0 0).trans rfl;have q1:wy.cell? ⟨W.heap.size,1,none⟩=some (.int .i64 (n:Int)):=(abz I0 1).trans rfl;have q2:wy.cell? ⟨W.heap.size,2,none⟩=some (.int .i64 (mm:Int)):=(abz I0 2).trans rfl;have hxy:=v1.o.move (W1:=wy) (fun k hk _=>t6.block k hk.2 (fun e=>hk.1 (.inl e)) (fun e=>hk.1 (.inr (.inl e))) (fun e=>hk.1 (.inr (.inr e))));have j0:=Za (l2.o A' c' bb wy (Kd.F_now hxy.2) v1.o.1);rw [Z1.o] at j0
   have c0 := Za (show ∀ (d0 : World) (gd' : Bool), Below wy.heap.size wy d0 -> gd' = goodL wb L0 ((pre ++ [((i, A', c', bb) : ThX)]).map thK) -> d0.cell? ⟨b + 1, 0, none⟩ = some (.slice (some H0) my d9) /\ d0.cell? H0 = some (.slice x0.2.1 L0 x0.2.2.1) /\ d0.cell? ⟨b + 1 + 1, 0, none⟩ = some (.bool (goodL wb L0 (pre.map thK))) /\ d0.frozen? ⟨b + 1 + 1, 0, none⟩ = false /\
     KeepsFrom w4.heap.size Wx (d0.setCell ⟨b+1+1,0,none⟩ (.bool gd'))/\KpX w4.heap.size (fun k=>k=b\/k=b+1\/k=b+1+1) Wx (d0.setCell ⟨b+1+1,0,none⟩ (.bool gd'))/\(fun pre Wx=> ∃v8 v9,Wx.heap[b]?=some (.cells #[v8] 57 (0,0))/\Wx.heap[b+1]?=some (.cells #[v9] 24 (0,0))/\Wx.heap[b+1+1]?=some (.cells #[.bool (goodL wb L0 (pre.map thK))] 4 (0,0))/\(Kd.int .i64).R 3 Wx w4.heap.size (fun _=>True) v8 ((pre.take n).map fun x=>(x.1:Int))/\slK.R 34 Wx w4.heap.size (fun _=>True) v9 (pre.take n)/\RX w4.heap.size b (b+1) (b+1+1) w4 Wx/\(∀x,x∈pre->ThOk Wx (fun k=> ¬(k=b\/k=b+1\/k=b+1+1)/\k<w4.heap.size) x)/\pre.map thK=T.take pre.length) (pre++ [((i,A',c',bb):ThX)]) (d0.setCell ⟨b+1+1,0,none⟩ (.bool gd')) by
    intro d0 gd' a0 hgd;have U0:w4.heap.size<=wy.heap.size:=Zt G0.o t6.size;have u1:=aNz t1 a0;have u2:=aNz t2 a0;have u3:=aNz t3 a0;have hsc: ∀k,k≠b+1+1->(d0.setCell ⟨b+1+1,0,none⟩ (.bool gd')).heap[k]?=d0.heap[k]?:=fun k hk=>Below.heap_setCell d0 ⟨b+1+1,0,none⟩ (.bool gd') k hk
    have l0:RX w4.heap.size b (b+1) (b+1+1) Wx (d0.setCell ⟨b+1+1,0,none⟩ (.bool gd')):=(t6.trans (RX.of_below a0 U0)).trans (RX.of_set u3 (.inr (.inr rfl)));have m3:=H3.o.trans l0;refine ⟨(abz u2 0).trans rfl,a3z a0 b0,(abz u3 0).trans rfl,bbz u3 0,⟨l0.size,fun k o _ ho hn=>l0.walks k o ho hn⟩,⟨l0.size,fun k hk he=>l0.block k hk (fun e=>he (.inl e)) (fun e=>he (.inr (.inl e))) (fun e=>he (.inr (.inr e)))⟩,y8, .slice (some H0) my d9,(hsc b (by omega)).trans u1,(hsc (b+1) (by omega)).trans u2,?_,?_,?_,m3,?_,i3.o⟩
    ·rw [hgd];exact coz u3 0 _ rfl
    ·exact Kd.aKz (Kd.cvz (Kd.bUz (Kd.ckz t4 a0)) (fun k hk=>hsc k (by have:=hk.2.1;have:=g0.o;omega))) (fun _ _=>trivial)
    ·exact Kd.aKz (Kd.cvz (Kd.bUz (Kd.ckz t5 a0)) (fun k hk=>hsc k (by have:=hk.2.1;have:=g0.o;omega))) (fun _ _=>trivial)
    ·intro x hx;rcases List.mem_append.1 hx with hx|hx
     ·exact (z3.o x hx).move (fun k hk _=>l0.block k hk.2 (fun e=>hk.1 (.inl e)) (fun e=>hk.1 (.inr (.inl e))) (fun e=>hk.1 (.inr (.inr e))))
     ·rw [List.mem_singleton.1 hx]
      exact v1.o.move (fun k hk _=>l0.block k hk.2 (fun e=>hk.1 (.inl e)) (fun e=>hk.1 (.inr (.inl e))) (fun e=>hk.1 (.inr (.inr e)))))
   have y1:=Za (show goodL wb L0 ((pre++ [((i,A',c',bb):ThX)]).map thK)=(goodL wb L0 (pre.map thK)&&(evB wb bb&&nb==L0)) by
    rw [List.map_append, <-Z1.o]
    exact goodL_snoc wb L0 _ _)
   rw [y1.o] at c0;clear y1 t1 t2 t3 t4 t5 t6 I0 hxy f0 G1 R0;generalize goodL wb L0 (pre.map thK)=gd at c0 K0
   cases gd with
   |false=>
    have hfin:=c0.o wy false (Zw _ _) rfl;have t0:=Za hfin.2.2.2.2;clear hfin c0 j0
    gi_wp2
    first|exact t0.o|(refine ⟨trivial,?_⟩;gi_wp2;exact t0.o)
   |true=>
    gi_wp2
    refine ⟨trivial,(CallsIn.inRound _ (callsIn_wide.2 j0.o)).mono ?_⟩;rintro e d0 ⟨rfl,a0⟩;clear j0 e9 K0 o0 b0 q0 q1 q2;generalize evB wb bb=ev at c0|-
    cases ev with
    |false=>
     have hfin:=c0.o d0 false a0 rfl;obtain ⟨e9,b0,K0,o0,B0⟩:=hfin;have t0:=Za B0;clear B0 c0 a0
     gi_wp2
     exact t0.o
    |true=>
     have hfin:=c0.o d0 (nb==L0) a0 (by simp);obtain ⟨e9,b0,K0,o0,B0⟩:=hfin
     have hbq:((nb:Int)==(L0:Int))=(nb==L0):=by
      by_cases h:nb=L0
      ·subst h;simp
      ·rw [beq_eq_false_iff_ne.2 h,beq_eq_false_iff_ne.2 (by omega)]
     have t0:=Za B0;clear B0 c0 a0
     gi_wp2
     exact t0.o
  ·have hj: ¬((m9:Int)<(n:Int)):=by have:=T0.o;omega
   have HQ:=Za (show (fun wy=> ∃y8 y9,wy.heap[b]?=some (.cells #[y8] 57 (0,0))/\wy.heap[b+1]?=some (.cells #[y9] 24 (0,0))/\wy.heap[b+1+1]?=some (.cells #[.bool (goodL wb L0 (pre.map thK))] 4 (0,0))/\(Kd.int .i64).R 3 wy w4.heap.size (fun _=>True) y8 (((pre++ [((i,A',c',bb):ThX)]).take n).map fun x=>(x.1:Int))/\slK.R 34 wy w4.heap.size (fun _=>True) y9 ((pre++ [((i,A',c',bb):ThX)]).take n)/\RX w4.heap.size b (b+1) (b+1+1) Wx wy) Wx from ⟨_,_,S1.o,Q0.o,n2.o,by rw [List.take_append_of_le_length (by omega)];exact z2.o,by rw [List.take_append_of_le_length (by omega)];exact H2.o,RX.refl _ _ _ _ _⟩)
   try dsimp only at HQ
   obtain ⟨y8,y9,t1,t2,t3,t4,t5,t6⟩:=HQ.o;obtain ⟨Y9,d9,rfl⟩:=Kd.aQz t5;obtain ⟨x0,f0,G1⟩:=Q3.o;obtain ⟨H0,rfl,b0⟩:=slK_cell0 t5 f0;rw [show slE x0= .slice x0.2.1 L0 x0.2.2.1 by unfold slE;rw [G1]] at b0;obtain ⟨my,R0⟩: ∃m,((pre++ [((i,A',c',bb):ThX)]).take n).length=m:=⟨_,rfl⟩;have j3:0<my:=by rw [<-R0];exact (Zk f0).1
   have F2:(0:Int)<(my:Int):=by omega
   rw [R0] at t2 t5;have e9:Wx.cell? ⟨b+1,0,none⟩=some (.slice (some H0) my d9):=(abz t2 0).trans rfl;have K0:Wx.cell? ⟨b+1+1,0,none⟩=some (.bool (goodL wb L0 (pre.map thK))):=(abz t3 0).trans rfl;have o0:=bbz t3 0;have I0:=t6.blk M0.o (by have:=g0.o;omega) (by omega) (by omega) (by omega);have q0:Wx.cell? ⟨W.heap.size,0,none⟩=some (.int .i64 p):=(abz I0 0).trans rfl;have q1:Wx.cell? ⟨W.heap.size,1,none⟩=some (.int .i64 (n:Int)):=(abz I0 1).trans rfl;have q2:Wx.cell? ⟨W.heap.size,2,none⟩=some (.int .i64 (mm:Int)):=(abz I0 2).trans rfl;have hxy:=v1.o.move (W1:=Wx) (fun k hk _=>t6.block k hk.2 (fun e=>hk.1 (.inl e)) (fun e=>hk.1 (.inr (.inl e))) (fun e=>hk.1 (.inr (.inr e))));have j0:=Za (l2.o A' c' bb Wx (Kd.F_now hxy.2) v1.o.1);rw [Z1.o] at j0
   have c0 := Za (show ∀ (d0 : World) (gd' : Bool), Below Wx.heap.size Wx d0 -> gd' = goodL wb L0 ((pre ++ [((i, A', c', bb) : ThX)]).map thK) -> d0.cell? ⟨b + 1, 0, none⟩ = some (.slice (some H0) my d9) /\ d0.cell? H0 = some (.slice x0.2.1 L0 x0.2.2.1) /\ d0.cell? ⟨b + 1 + 1, 0, none⟩ = some (.bool (goodL wb L0 (pre.map thK))) /\ d0.frozen? ⟨b + 1 + 1, 0, none⟩ = false /\
     KeepsFrom w4.heap.size Wx (d0.setCell ⟨b+1+1,0,none⟩ (.bool gd'))/\KpX w4.heap.size (fun k=>k=b\/k=b+1\/k=b+1+1) Wx (d0.setCell ⟨b+1+1,0,none⟩ (.bool gd'))/\(fun pre Wx=> ∃v8 v9,Wx.heap[b]?=some (.cells #[v8] 57 (0,0))/\Wx.heap[b+1]?=some (.cells #[v9] 24 (0,0))/\Wx.heap[b+1+1]?=some (.cells #[.bool (goodL wb L0 (pre.map thK))] 4 (0,0))/\(Kd.int .i64).R 3 Wx w4.heap.size (fun _=>True) v8 ((pre.take n).map fun x=>(x.1:Int))/\slK.R 34 Wx w4.heap.size (fun _=>True) v9 (pre.take n)/\RX w4.heap.size b (b+1) (b+1+1) w4 Wx/\(∀x,x∈pre->ThOk Wx (fun k=> ¬(k=b\/k=b+1\/k=b+1+1)/\k<w4.heap.size) x)/\pre.map thK=T.take pre.length) (pre++ [((i,A',c',bb):ThX)]) (d0.setCell ⟨b+1+1,0,none⟩ (.bool gd')) by
    intro d0 gd' a0 hgd;have U0:w4.heap.size<=Wx.heap.size:=Zt G0.o t6.size;have u1:=aNz t1 a0;have u2:=aNz t2 a0;have u3:=aNz t3 a0;have hsc: ∀k,k≠b+1+1->(d0.setCell ⟨b+1+1,0,none⟩ (.bool gd')).heap[k]?=d0.heap[k]?:=fun k hk=>Below.heap_setCell d0 ⟨b+1+1,0,none⟩ (.bool gd') k hk
    have l0:RX w4.heap.size b (b+1) (b+1+1) Wx (d0.setCell ⟨b+1+1,0,none⟩ (.bool gd')):=(t6.trans (RX.of_below a0 U0)).trans (RX.of_set u3 (.inr (.inr rfl)));have m3:=H3.o.trans l0;refine ⟨(abz u2 0).trans rfl,a3z a0 b0,(abz u3 0).trans rfl,bbz u3 0,⟨l0.size,fun k o _ ho hn=>l0.walks k o ho hn⟩,⟨l0.size,fun k hk he=>l0.block k hk (fun e=>he (.inl e)) (fun e=>he (.inr (.inl e))) (fun e=>he (.inr (.inr e)))⟩,y8, .slice (some H0) my d9,(hsc b (by omega)).trans u1,(hsc (b+1) (by omega)).trans u2,?_,?_,?_,m3,?_,i3.o⟩
    ·rw [hgd];exact coz u3 0 _ rfl
    ·exact Kd.aKz (Kd.cvz (Kd.bUz (Kd.ckz t4 a0)) (fun k hk=>hsc k (by have:=hk.2.1;have:=g0.o;omega))) (fun _ _=>trivial)
    ·exact Kd.aKz (Kd.cvz (Kd.bUz (Kd.ckz t5 a0)) (fun k hk=>hsc k (by have:=hk.2.1;have:=g0.o;omega))) (fun _ _=>trivial)
    ·intro x hx;rcases List.mem_append.1 hx with hx|hx
     ·exact (z3.o x hx).move (fun k hk _=>l0.block k hk.2 (fun e=>hk.1 (.inl e)) (fun e=>hk.1 (.inr (.inl e))) (fun e=>hk.1 (.inr (.inr e))))
     ·rw [List.mem_singleton.1 hx]
      exact v1.o.move (fun k hk _=>l0.block k hk.2 (fun e=>hk.1 (.inl e)) (fun e=>hk.1 (.inr (.inl e))) (fun e=>hk.1 (.inr (.inr e)))))
   have y1:=Za (show goodL wb L0 ((pre++ [((i,A',c',bb):ThX)]).map thK)=(goodL wb L0 (pre.map thK)&&(evB wb bb&&nb==L0)) by
    rw [List.map_append, <-Z1.o]
    exact goodL_snoc wb L0 _ _)
   rw [y1.o] at c0;clear y1 t1 t2 t3 t4 t5 t6 I0 hxy f0 G1 R0;generalize goodL wb L0 (pre.map thK)=gd at c0 K0
   cases gd with
   |false=>
    have hfin:=c0.o Wx false (Zw _ _) rfl;have t0:=Za hfin.2.2.2.2;clear hfin c0 j0
    gi_wp2
    first|exact t0.o|(refine ⟨trivial,?_⟩;gi_wp2;exact t0.o)
   |true=>
    gi_wp2
    refine ⟨trivial,(CallsIn.inRound _ (callsIn_wide.2 j0.o)).mono ?_⟩;rintro e d0 ⟨rfl,a0⟩;clear j0 e9 K0 o0 b0 q0 q1 q2;generalize evB wb bb=ev at c0|-
    cases ev with
    |false=>
     have hfin:=c0.o d0 false a0 rfl;obtain ⟨e9,b0,K0,o0,B0⟩:=hfin;have t0:=Za B0;clear B0 c0 a0
     gi_wp2
     exact t0.o
    |true=>
     have hfin:=c0.o d0 (nb==L0) a0 (by simp);obtain ⟨e9,b0,K0,o0,B0⟩:=hfin
     have hbq:((nb:Int)==(L0:Int))=(nb==L0):=by
      by_cases h:nb=L0
      ·subst h;simp
      ·rw [beq_eq_false_iff_ne.2 h,beq_eq_false_iff_ne.2 (by omega)]
     have t0:=Za B0;clear B0 c0 a0
     gi_wp2
     exact t0.o
 case done=>
  rintro D xs Wx hD hxs ⟨v8,v9,h1,h2,h3,h4,h5,h6,h7,h8⟩ R3;rw [Y2.o] at hxs;rw [hxs] at h3;obtain ⟨A8,c8,rfl⟩:=Kd.aQz h4;obtain ⟨A9,c9,rfl⟩:=Kd.aQz h5;have hlx:xs.length=T.length:=by rw [<-hxs,List.length_map]
  have his:(xs.take n).map (fun x=>(x.1:Int))=awz.is n T:=by
   unfold awz.is;rw [<-hxs, <-List.map_take,List.map_map];rfl
  have hfs:(xs.take n).map (fun x=>x.2.2.2)=(T.take n).map Prod.snd:=by
   rw [<-hxs, <-List.map_take,List.map_map];rfl
  have A0:((xs.take n).map fun x=>(x.1:Int)).length=(xs.take n).length:=by rw [List.length_map]
  obtain ⟨m9,v0⟩: ∃m,(xs.take n).length=m:=⟨_,rfl⟩;rw [A0,v0] at h1 h4;rw [v0] at h2 h5;have S2:=Za (show m9=min n T.length by rw [<-v0,List.length_take,hlx]);have V2:=Za v0;have hB:=Q1.o.trans (show Below W.heap.size w4 Wx from ⟨h6.os,h6.tape,h6.output,h6.size,fun k hk=>h6.block k (by have:=g0.o;omega) (by omega) (by omega) (by omega)⟩);have r0:=Za hB;have M0:=Za (h6.blk C3.o (by have:=g0.o;omega) (by omega) (by omega) (by omega));have D0:Wx.cell? ⟨b,0,none⟩=some (.slice A8 m9 c8):=(abz h1 0).trans rfl;have C0:Wx.cell? ⟨b+1,0,none⟩=some (.slice A9 m9 c9):=(abz h2 0).trans rfl;have V0:Wx.cell? ⟨b+1+1,0,none⟩=some (.bool (goodL wb L0 T)):=(abz h3 0).trans rfl;have q0:Wx.cell? ⟨W.heap.size,0,none⟩=some (.int .i64 p):=(abz M0.o 0).trans rfl;have q1:Wx.cell? ⟨W.heap.size,1,none⟩=some (.int .i64 (n:Int)):=(abz M0.o 1).trans rfl;have q2:Wx.cell? ⟨W.heap.size,2,none⟩=some (.int .i64 (mm:Int)):=(abz M0.o 2).trans rfl
  rw [his] at h4;have G3:=Za (Kd.aHz h4).2.2;have B3:=Za (Kd.dVz (first_F h5 (fun x hx=>h7 x (List.mem_of_mem_take hx))));have I2:=Za hfs;have Q0:=Za h2;have j1:=Za R3;have G2:=Za hD;have G0:=Za (show w4.heap.size<=Wx.heap.size from h6.size);clear h1 h2 h3 h4 h5 h6 h7 h8 hxs hlx his hfs A0 v0 R3 hD hB;simp only [Exit.inBlock,Exit.then];have hres:=J0.o;by_cases hlt:T.length<n
  ·rw [Ya hlt] at hres;obtain ⟨rfl,rfl⟩: [] =r1/\5=r2:=by simpa using hres
   have hj:((m9:Int)<(n:Int)):=by have:=S2.o;omega
   clear hres;go_wp2;refine cwz [D] Wx (by simp) (fun D' hD'=>by rw [List.mem_singleton] at hD';rw [hD'];exact j1.o) (fun w' hkp hsz hos htp hou=> ?_)
   have hcc: ∀(q:Nat) (oo:Obj),Wx.heap[q]?=some oo->oo.isCells=true->w'.heap[q]?=Wx.heap[q]?:=fun q oo hq ho=>hkp q (aUz hq) (fun hm=>by
    rw [List.mem_singleton] at hm;subst hm
    rw [j1.o] at hq;cases hq;cases ho)
   exact ⟨_,results_tmp2 rfl _ _ _,_,rfl,S_keepK (Kd.S_nil _ _ _ _ _) hcc,hos.trans r0.o.os,htp.trans r0.o.tape,hou.trans r0.o.output,by rw [hsz];exact r0.o.size,fun q hq=>(hkp q (Zp hq r0.o.size) (fun hm=>by
    rw [List.mem_singleton] at hm;have:=G2.o;have:=Q1.o.size
    omega)).trans (r0.o.block q hq)⟩
  ·rw [Yb hlt] at hres;have hj: ¬((m9:Int)<(n:Int)):=by have:=S2.o;omega
   cases hgd:goodL wb L0 T with
   |false=>
    rw [hgd] at V0 hres;rw [Yb (by decide)] at hres;obtain ⟨rfl,rfl⟩: [] =r1/\1=r2:=by simpa using hres
    clear hres hgd;go_wp2;refine cwz [D] Wx (by simp) (fun D' hD'=>by rw [List.mem_singleton] at hD';rw [hD'];exact j1.o) (fun w' hkp hsz hos htp hou=> ?_)
    have hcc: ∀(q:Nat) (oo:Obj),Wx.heap[q]?=some oo->oo.isCells=true->w'.heap[q]?=Wx.heap[q]?:=fun q oo hq ho=>hkp q (aUz hq) (fun hm=>by
     rw [List.mem_singleton] at hm;subst hm
     rw [j1.o] at hq;cases hq;cases ho)
    exact ⟨_,results_tmp2 rfl _ _ _,_,rfl,S_keepK (Kd.S_nil _ _ _ _ _) hcc,hos.trans r0.o.os,htp.trans r0.o.tape,hou.trans r0.o.output,by rw [hsz];exact r0.o.size,fun q hq=>(hkp q (Zp hq r0.o.size) (fun hm=>by
     rw [List.mem_singleton] at hm;have:=G2.o;have:=Q1.o.size
     omega)).trans (r0.o.block q hq)⟩
   |true=>
    rw [hgd] at V0 hres;rw [Ya rfl] at hres;unfold awz.g at hres;rw [I1.o] at hres;by_cases hfu:(invF wb (subM p n mm (awz.is n T))).2<n
    ·rw [Ya hfu] at hres;cases hres
    rw [Yb hfu] at hres;by_cases hsm:ayz.small ((T.take n).map Prod.snd)=true
    rotate_left
    ·rw [Yb hsm] at hres;cases hres
    rw [Ya hsm] at hres;have U3:m9=n:=by have:=S2.o;omega
    subst U3;have X0:(awz.is m9 T).length=m9:=by unfold awz.is;rw [List.length_map,List.length_take];omega
    have W0: ∀i,i∈awz.is m9 T->0<=i/\i<((m9+mm:Nat):Int):=fun i hi=>by
     unfold awz.is at hi;obtain ⟨x,hx,rfl⟩:=List.mem_map.1 hi;have h1:=thereF_lt 0 l hv x (by rw [Y2.o];exact List.mem_of_mem_take hx);have:=HN.o;have:=q4.o;omega
    have p3:=b1.o A8 c8 (awz.is m9 T) Wx G3.o X0 W0 hfu;have Z2:=Za p3
    have e3:=Za (show ((T.take m9).map Prod.snd).length<=1000/\ ∀r,r∈(T.take m9).map Prod.snd->r.length<=1000000 by
     simp only [ayz.small,Bool.and_eq_true,decide_eq_true_eq,List.all_eq_true] at hsm
     exact hsm)
    have z1:=Za (show ((T.take m9).map Prod.snd).length=m9 by rw [List.length_map,List.length_take];omega)
    have hgs: ∀r,r∈subM p m9 mm (awz.is m9 T)->Good wb m9 r:=by
     have X2:=cZz p m9 mm n1 y4 n8 s4;rw [I1.o] at X2;unfold subM genM;exact pickF_good (fun r hr=>(List.mem_append.1 hr).elim (djz wb R1.o m9 r) (X2.1 r)) _ (fun i hi=>by rw [List.length_append,bwz,X2.2];exact W0 i hi)
    have hsl:(subM p m9 mm (awz.is m9 T)).length=m9:=by unfold subM;rw [fBz];exact X0
    have hig:=invF_good R1.o (subM p m9 mm (awz.is m9 T)) (by rw [hsl];exact hgs);rw [hsl] at hig;have n0:=B3.o;rw [I2.o,V2.o] at n0;have Z0:=Za n0;have j2:=Za hres;obtain ⟨iv,N2⟩: ∃iv,(invF wb (subM p m9 mm (awz.is m9 T))).1.map (·.drop m9)=iv:=⟨_,rfl⟩
    have a1:=Za (show (∀r,r∈iv->Good wb m9 r)/\iv.length=m9 by
     rw [<-N2];refine ⟨fun r hr=> ?_,by rw [List.length_map];exact hig.2⟩;obtain ⟨q,hq,rfl⟩:=List.mem_map.1 hr;have:=hig.1 q hq
     exact ⟨by rw [List.length_drop,this.1];omega,fun x hx=>this.2 x (List.mem_of_mem_drop hx)⟩)
    rw [N2] at Z2 j2;obtain ⟨first,hfr⟩: ∃f,(T.take m9).map Prod.snd=f:=⟨_,rfl⟩;rw [hfr] at e3 z1 j2 Z0;clear hres hgd hfu hsm X0 W0 p3 hgs hsl hig n0 N2 hfr
    go_wp2_with fail
    refine Z2.o.mono ?_;rintro e w6 ⟨vi,rfl,s1,s2⟩;obtain ⟨AI,ci,rfl⟩:=Kd.aQz (Kd.S_R s1)
    obtain ⟨ai,rfl⟩: ∃ai,AI=some ai:=by
     cases AI with
     |none=>have h1:=A_none (Kd.aHz (Kd.S_R s1)).2.2;rw [a1.o.2] at h1;omega
     |some ai=>exact ⟨ai,rfl⟩
    have n3:=Za (r0.o.trans (s2.mono r0.o.size));have c3:=Kd.cdz (Kd.S_F (Kd.bDz s1)) (ok':=fun k=>k<w6.heap.size) (fun k hk=>hk.2.2.1);rw [a1.o.2] at c3;have l4:=Za c3;have b3:=Za (Kd.cdz (Kd.cVz Z0.o s2) (ok':=fun k=>k<w6.heap.size) (fun k hk=>Zp hk.2 s2.size));have a4:=Za (aNz M0.o s2);have A4:=Za (aNz Q0.o s2);have n4:=Za (aNz j1.o s2);rw [a1.o.2];clear s1 s2 c3 Z2 b1 Z0 M0 Q0 j1 B3 D0 C0 V0 q0 q1 q2 G3 l2 O3 N3 hj;go_wp2
    go_loopw [15,84] (fun v M2 wr=> ∃(k':Nat) (acc:List (List Int)),k'<=m9/\M2= .int .i64 (k':Int)/\Aside0 (Kd.S (dM 5 .u8) 34 wr w6.heap.size (fun _=>True) v acc)/\Aside0 (Below w6.heap.size w6 wr)/\Aside0 (awz.l k wb first (iv.drop k') acc=some (r1,r2))/\acc.length=k') (fun _ M2 _=>m9 - (intOf M2).toNat)
    case atStart=>exact ⟨0, [],Nat.zero_le _,rfl,⟨Kd.S_nil _ _ _ _ _⟩,⟨Zw _ _⟩,j2,rfl⟩
    clear j2;obtain ⟨w7,rfl⟩: ∃w7,w7=wr:=⟨_,rfl⟩;obtain ⟨j,acc,hj,rfl,HO,z0,M1,hacc⟩:=hrel;have y3:=Za hacc;clear hacc;by_cases a3:j<m9
    ·obtain ⟨row,hrow⟩: ∃x,iv[j]?=some x:=⟨_,Zf (by rw [a1.o.2];exact a3)⟩
     have hdr:iv.drop j=row::iv.drop (j+1):=by
      obtain ⟨h1,h2⟩:=Zk hrow;rw [List.drop_eq_getElem_cons h1,h2]
     have S0:=M1.o;rw [hdr,awz.l] at S0;obtain ⟨⟨t1,t2⟩,hd,A0⟩:=Option.bind_eq_some_iff.1 S0;dsimp only at A0;have hgr:=a1.o.1 row (Zo hrow);have K2:=Kd.csz (W1:=w7) l4.o (fun k hk _=>z0.o.block k hk);rw [<-a1.o.2] at K2;obtain ⟨A',c',e1,l1,FR⟩:=row_atF K2 j row hrow;have D3:=Za FR;have C1:=Za (Kd.csz (W1:=w7) b3.o (fun k hk _=>z0.o.block k hk));have b2:w7.drew.cell? ⟨W.heap.size,0,none⟩=some (.int .i64 p):=(abz (aNz a4.o z0.o) 0).trans rfl;have U1:w7.drew.cell? ⟨b+1,0,none⟩=some (.slice A9 m9 c9):=(abz (aNz A4.o z0.o) 0).trans rfl;have C4:=Za A0;have HD:=Za hd;have HRW:=Za hgr;have T1:=Za z0.o.size;have B1:=Za (L3.o w7.drew)
     have K3:=Za (show∀(w8:World) (g:Nat),w7.heap.size<=g->Below w7.heap.size w7 w8->Fd w8 g wb (fpoly wb) (fun _=>False)->Calls prog 47 #[.pointer (some ⟨g,0,none⟩), .slice A' m9 c', .slice A9 m9 c9] w8 _ from by
      intro w8 g hg E0 F4
      have h1:=rDot.calls g wb (fun _=>False) A' A9 c' c9 k row first t1 t2 w8 R1.o F4 (fun _ h=>h.elim) (Kd.cdz (Kd.csz D3.o (fun q hq _=>E0.block q (Zp hq T1.o))) (fun q hq=>by show q≠g;have:q<w6.heap.size:=hq;have:=T1.o;omega)) (by rw [z1.o];exact Kd.cdz (Kd.csz C1.o (fun q hq _=>E0.block q (Zp hq T1.o))) (fun q hq=>by show q≠g;have:q<w6.heap.size:=hq;have:=T1.o;omega)) (fun x hx=>by
       have:=HRW.o.2 x hx
       simp [inF,this]) (by rw [HRW.o.1,z1.o]) (by rw [z1.o];omega) e3.o.2 e3.o.1 HD.o
      rw [HRW.o.1,z1.o] at h1
      exact h1)
     have i1:(0:Int)<=(j:Int):=by omega
     have i2:(j:Int)<(m9:Int):=by omega
     rw [hgr.1] at e1 l1;obtain ⟨nf,hnf⟩: ∃m,first.length=m:=⟨_,rfl⟩;clear hrow hdr S0 hd A0 K2 FR M1 l1
     go_wp2_with fail
     refine regOnly_ ?_;refine ccz (n:=11) (S:=fun w'=>w'.cell? ⟨W.heap.size,0,none⟩=some (.int .i64 p)/\w'.cell? ⟨b+1,0,none⟩=some (.slice A9 m9 c9)) (ds:= []) (bA 11 0) kr_ rfl rfl ⟨b2,U1⟩ (fun hHeld=> ?_);refine pu_ 0 89 1 ?_;refine pu_ 3 92 9 ?_;refine tk_ 1 90 11 hHeld ?_;refine tk_ 4 93 27 hHeld ?_;refine one_ (i:=2) (N:=some 91) (bA 11 31) rfl rfl kr_ (by decide) (fun K hK=> ?_);refine goes_ func45 kr_ rfl #[.int .i64 p] (by rfl) rfl rfl am_ ?_
     with_reducible refine (B1.o).mono ?_
     rintro e w8 ⟨g,rfl,f1,f2,f3⟩;refine ⟨_,rfl,?_⟩;have p0:=Za (Below.trans (b1z (Zw w7.heap.size w7)) f3);have I3:=Za (show w7.heap.size<=g from f2);have hdt:=K3.o w8 g I3.o p0.o (f1.fd (fun _=>False) (fun h=>h));have F1:=Za hdt;clear hdt f1 f2 f3;refine hK.out _ _ ⟨a3z p0.o b2,a3z p0.o U1⟩ (fun hHeld=> ?_);clear hK K;refine norm_ (a':= ?_) ?_ ?_;rotate_left
     ·show Act.put _ (some 91) _=_;simp only [Act.put,Zg,Zh,Zi,i64_w,i32_w];rfl
     refine one_ (i:=5) (N:=some 94) (bA 11 63) rfl rfl kr_ (by decide) (fun K hK=> ?_);refine goes_ func47 kr_ rfl #[.pointer (some ⟨g,0,none⟩), .slice A' m9 c', .slice A9 m9 c9] (by rfl) rfl rfl am_ ?_
     with_reducible refine (F1.o).mono ?_
     rintro e w9 ⟨v9,rfl,d1,d2,d3⟩;refine ⟨_,rfl,?_⟩;obtain ⟨Av,cv,rfl⟩:=Kd.aQz d1;have D1:=Za d1;have L1:=Za (show Below w7.heap.size w7 w9 from d3.below p0.o I3.o);clear d1 d2 d3;refine hK.out _ _ ⟨a3z L1.o b2,a3z L1.o U1⟩ (fun hHeld=> ?_);clear hK K;refine norm_ (a':= ?_) ?_ ?_;rotate_left
     ·show Act.put _ (some 94) _=_;simp only [Act.put,Zg,Zh,Zi,i64_w,i32_w];rfl
     refine pu_ 6 88 127 ?_;refine pu_ 7 95 255 ?_;refine pu_ 8 96 511 ?_;refine pu_ 9 18 1023 ?_;refine pu_ 10 19 2047 ?_;refine done_ kr_ ?_;refine regOnly_normal ?_;clear hHeld;have H1:=S_fresh HO.o L1.o z0.o.size (Kd.bCz D1.o p0.o.size);obtain ⟨nv,w3⟩: ∃m,t1.length=m:=⟨_,rfl⟩;rw [w3] at H1|-;have c4:=Za H1.1;have S3:=Za H1.2.1;have m4:=Za H1.2.2;have O1:=Za (z0.o.trans (L1.o.mono z0.o.size));clear H1 w3 HO z0 L1 D1 F1 K3 B1 b2 U1 D3 C1 HD;simp only [Exit.inBlock,Exit.then]
     go_wp2_with ((with_reducible refine amz (b:= .append) (xs:= #[.tmp 97, .tmp 99]) rfl ?_);go_must (at_builtin;refine Kd.bLz (dM 5 .u8) (w0:=w6) w6.heap.size rfl (.tmp 97) (.tmp 99) 24 34 (.slice none 0 0) 24 rfl underlying24 kr_ rfl (by decide) (by decide) _ _ t1 [.slice Av nv cv] (fun _=>True) (fun k'=>w7.heap.size<=k') rfl rfl S3.o m4.o (fun _ _=>trivial) c4.o O1.o O1.o.size (by have:=y3.o;omega) ?_);intro K4 y0 M3 F3 W3 L2;have D2:=Za M3;have Q2:=Za F3;clear M3 F3 W3 L2)
     go_roundw
     case rel=>exact ⟨j+1,acc++ [t1],by omega,by go_num,D2,Q2,C4,by have:=y3.o;simp;omega⟩
     case measure=>simp [intOf];omega
    ·obtain rfl:j=m9:=by omega
     have S0:=M1.o;rw [List.drop_of_length_le (by rw [a1.o.2];exact Zv _),awz.l] at S0;obtain ⟨rfl,rfl⟩:acc=r1/\0=r2:=by simpa using S0
     have I4:=Za (Kd.cMz HO.o n3.o.size);have p0:=Za (n3.o.trans (z0.o.mono n3.o.size));have E3:=Za (aNz n4.o z0.o);clear S0 M1 HO;go_wp2;refine cwz [D] w7 (by simp) (fun D' hD'=>by rw [List.mem_singleton] at hD';rw [hD'];exact E3.o) (fun w' hkp hsz hos htp hou=> ?_)
     have hcc: ∀(q:Nat) (oo:Obj),w7.heap[q]?=some oo->oo.isCells=true->w'.heap[q]?=w7.heap[q]?:=fun q oo hq ho=>hkp q (aUz hq) (fun hm=>by
      rw [List.mem_singleton] at hm;subst hm
      rw [E3.o] at hq;cases hq;cases ho)
     exact ⟨_,results_tmp2 rfl _ _ _,_,rfl,S_keepK (I4.o) hcc,hos.trans p0.o.os,htp.trans p0.o.tape,hou.trans p0.o.output,by rw [hsz];exact p0.o.size,fun q hq=>(hkp q (Zp hq p0.o.size) (fun hm=>by
      rw [List.mem_singleton] at hm;have:=G2.o;have:=Q1.o.size
      omega)).trans (p0.o.block q hq)⟩
theorem awz.bad (p K M : Int) (fi : Bool) (A1 A2 : Option Addr) (c1 c2 : Nat) (l : List (List Int)) (hv : List Bool) (W : World)
  (hf:cyz.f p K M l=some fi) (hr:Kd.C (dM 5 .u8) W A1 l.length l) (d0:l.length<=c1) (hbad:fi=false\/hv.length≠l.length):
  Calls prog 27 #[.agg #[.int .i64 p, .int .i64 K, .int .i64 M], .slice A1 l.length c1, .slice A2 hv.length c2] W fun e w'=>e= .returned (.tuple #[.slice none 0 0, .int .i64 1])/\Below W.heap.size W w':=by
 have b0:=Za (fun (w1:World) (hB:Below W.heap.size W w1)=>cyz.calls p K M A1 c1 l fi w1 (Kd.aMz hr hB) d0 hf);have HBAD:=Za hbad;generalize l.length=N at b0 HBAD|-;generalize hv.length=N2 at HBAD|-;have hu:=underlying23;have HB:=Za (aoz (Zw W.heap.size W) (.cells #[.int .i64 p, .int .i64 K, .int .i64 M] 23));have HX:=Za (cEz W (.cells #[.int .i64 p, .int .i64 K, .int .i64 M] 23));clear hf hr d0 hbad;refine (callsIn_wide (n:=8)).1 (callsIn_of_wp_marks func27 rfl trivial (wpIn_wide.2 ?_) rfl);simp only [ntmps27,List.size_toArray,List.length_cons,List.length_nil,Nat.reduceAdd,Nat.reduceSub,Array.replicate_succ,Array.replicate_zero,List.push_toArray,List.append_toArray,List.nil_append,List.cons_append]
 go_wp2_with fail
 generalize W.alloc (.cells #[.int .i64 p, .int .i64 K, .int .i64 M] 23)=w0 at HB HX|-;refine (b0.o w0 HB.o).mono ?_;rintro e w1 ⟨rfl,c0⟩;have a0:=Za (HB.o.trans (c0.mono HB.o.size));clear c0 HX HB b0;have leave: ∀(Q:Prop),((∀w':World,(∀q,q<w1.heap.size->w'.heap[q]?=w1.heap[q]?)->w'.heap.size=w1.heap.size->w'.os=w1.os->w'.tape=w1.tape->w'.output=w1.output->Below W.heap.size W w')->Q)->Q:=fun Q h=>h (fun w' hkp hsz hos htp hou=>⟨hos.trans a0.o.os,htp.trans a0.o.tape,hou.trans a0.o.output,by rw [hsz];exact a0.o.size,fun q hq=>(hkp q (Zp hq a0.o.size)).trans (a0.o.block q hq)⟩)
 cases fi with
 |false=>
  go_wp2;refine cwz [] w1 (by simp) (fun D' hD'=>by simp at hD') (fun w' hkp hsz hos htp hou=> ?_);exact ⟨_,results_tmp2 rfl _ _ _,rfl,hos.trans a0.o.os,htp.trans a0.o.tape,hou.trans a0.o.output,by rw [hsz];exact a0.o.size,fun q hq=>(hkp q (Zp hq a0.o.size) (by simp)).trans (a0.o.block q hq)⟩
 |true=>
  have hne:N2≠N:=HBAD.o.resolve_left (by decide);have hself:((N2:Int) !=(N:Int))=true:=by simp;omega
  clear leave;go_wp2;refine cwz [] w1 (by simp) (fun D' hD'=>by simp at hD') (fun w' hkp hsz hos htp hou=> ?_);exact ⟨_,results_tmp2 rfl _ _ _,rfl,hos.trans a0.o.os,htp.trans a0.o.tape,hou.trans a0.o.output,by rw [hsz];exact a0.o.size,fun q hq=>(hkp q (Zp hq a0.o.size) (by simp)).trans (a0.o.block q hq)⟩
theorem awz.calls (k:Nat) (c0 a0 b0:Int) (A1:Option Addr) (c1:Nat) (l1:List (List Int)) (A2:Option Addr) (c2:Nat) (l2:List Bool) (r1:List (List Int)) (r2:Int) (w:World) (f0:Kd.C (Kd.slice 5 (Kd.int .u8)) w A1 l1.length l1) (g0:l1.length<=c1) (h0:Kd.C Kd.bool w A2 l2.length l2) (_hc2:l2.length<=c2) (h:awz.f k c0 a0 b0 l1 l2=some (r1,r2)):
  Calls prog 27 #[.agg #[.int .i64 c0, .int .i64 a0, .int .i64 b0], .slice A1 l1.length c1, .slice A2 l2.length c2] w fun e w'=> ∃d0:Value,e= .returned (.tuple #[d0, .int .i64 r2])/\Kd.S (Kd.slice 5 (Kd.int .u8)) 34 w' w.heap.size (fun _=>True) d0 r1/\Below w.heap.size w w':=by
 unfold awz.f at h;obtain ⟨fi,hfi,h⟩:=Option.bind_eq_some_iff.1 h
 have bad:some (([] :List (List Int)),(1:Int))=some (r1,r2)->(fi=false\/l2.length≠l1.length)->Calls prog 27 #[.agg #[.int .i64 c0, .int .i64 a0, .int .i64 b0], .slice A1 l1.length c1, .slice A2 l2.length c2] w fun e w'=> ∃d0:Value,e= .returned (.tuple #[d0, .int .i64 r2])/\Kd.S (Kd.slice 5 (Kd.int .u8)) 34 w' w.heap.size (fun _=>True) d0 r1/\Below w.heap.size w w':=by
  intro he hb;simp only [Zx,Zy] at he;obtain ⟨rfl,rfl⟩:=he;refine (awz.bad c0 a0 b0 fi A1 A2 c1 c2 l1 l2 w hfi f0 g0 hb).mono ?_;rintro e w' ⟨rfl,hB⟩;exact ⟨_,rfl,Kd.S_nil _ _ _ _ _,hB⟩
 cases fi with
 |false=>
  rw [Yb (by decide)] at h;exact bad h (.inl rfl)
 |true=>
  rw [Ya rfl] at h;by_cases hl:l2.length=l1.length
  ·rw [Ya hl] at h
   have e0:avz.f c0 a0 b0=some true/\(l1.length:Int)=wrap64 (a0+b0):=by
    unfold cyz.f at hfi;obtain ⟨b,hb,h2⟩:=Option.bind_eq_some_iff.1 hfi
    cases b with
    |false=>rw [Yb (by decide)] at h2;cases h2
    |true=>
     rw [Ya rfl] at h2;exact ⟨hb,by simpa using h2⟩
   obtain ⟨hb,hlen⟩:=e0;obtain ⟨p1,p2,k1,k2,m1,m2⟩:=bZz hb;obtain ⟨n,rfl⟩:=Int.eq_ofNat_of_zero_le (show 0<=a0 by omega);obtain ⟨m,rfl⟩:=Int.eq_ofNat_of_zero_le (show 0<=b0 by omega);have hln:l1.length=n+m:=by unfold wrap64 at hlen;omega
   rw [Zu,Zu] at h;have:=awz.go k c0 n m l1.length A1 A2 c1 c2 l1 l2 r1 r2 w hfi hb rfl hl hln f0 g0 h0 h;rw [<-hl] at this|-;rw [hl] at this|-;exact this
  ·rw [Yb hl] at h;exact bad h (.inr hl)
end Go.Proofs.Xc
end
