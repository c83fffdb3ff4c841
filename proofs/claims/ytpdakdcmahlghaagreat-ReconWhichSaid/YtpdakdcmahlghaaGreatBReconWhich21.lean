-- Joined texts of this work (wip/tools/bundle.py).
import Derived.Lib.SlBytesConst
import Derived.Test.YtpdakdcmahlghaaGreatBReconWhich20
set_option maxHeartbeats 8000000
set_option maxRecDepth 100000
set_option linter.unusedVariables false
set_option linter.unusedSimpArgs false
section
namespace Go.Proofs.Xc
open Go.RowKit Go.Proofs.Pw Go.Proofs.Pl Go.Proofs.Pm Tryz
attribute [local go_sem] a7z a8z bgz bhz aVz aWz a9z baz
attribute [local go_sem] Oper.semAt_some
def setAll (T:List (Nat×List Int)) (a:List (List Int)):List (List Int):=T.foldl (fun a x=>a.set x.1 x.2) a
theorem setAll_snoc (T:List (Nat×List Int)) (x:Nat×List Int) (a:List (List Int)):setAll (T++ [x]) a=(setAll T a).set x.1 x.2:=by simp [setAll]
def bNz.g (l:List (List Int)) (hv:List Bool) (d q:List (List Int)) (e:Int):Option (List (List Int)×Int):=
 if e=0 then (if (d++q).length=l.length then (if hv.length=l.length then (if 1<=d.length/\1<=q.length/\l.length<=1000 then (if ayz.small l=true then some (setAll (thereF 0 l hv) (d++q),0) else none) else none) else none) else none) else none
def bNz.f (k:Nat) (a0_0 a0_1 a0_2:Int) (l1:List (List Int)) (l2:List Bool):Option (List (List Int)×Int):=
 (awz.f k a0_0 a0_1 a0_2 l1 l2).bind fun d=>if d.2=0 then ((ayz.f k a0_0 a0_1 a0_2 d.1).bind fun q=>bNz.g l1 l2 d.1 q.1 q.2) else some ([],d.2)
theorem bNz.bad (k : Nat) (p K M : Int) (A1 A2 : Option Addr) (c1 c2 : Nat) (l : List (List Int)) (hv : List Bool) (d1 : List (List Int)) (d2 : Int) (W : World)
  (hd:awz.f k p K M l hv=some (d1,d2)) (h0:d2≠0) (f0:Kd.C (dM 5 .u8) W A1 l.length l) (e0:l.length<=c1) (d0:Kd.C Kd.bool W A2 hv.length hv) (g0:hv.length<=c2):
  Calls prog 29 #[.agg #[.int .i64 p, .int .i64 K, .int .i64 M], .slice A1 l.length c1, .slice A2 hv.length c2] W fun e w'=>e= .returned (.tuple #[.slice none 0 0, .int .i64 d2])/\Below W.heap.size W w':=by
 have b0:=Za (fun (w1:World) (hB:Below W.heap.size W w1)=>awz.calls k p K M A1 c1 l A2 c2 hv d1 d2 w1 (Kd.aMz f0 hB) e0 (Kd.aMz d0 hB) g0 hd);generalize l.length=N at b0|-;generalize hv.length=N2 at b0|-;have hu:=underlying23;have hb:(d2 !=0)=true:=by simpa using h0
 have HB:=Za (aoz (Zw W.heap.size W) (.cells #[.int .i64 p, .int .i64 K, .int .i64 M] 23));clear hd f0 e0 d0 g0 h0;refine (callsIn_wide (n:=8)).1 (callsIn_of_wp_marks func29 rfl trivial (wpIn_wide.2 ?_) rfl);simp only [ntmps29,List.size_toArray,List.length_cons,List.length_nil,Nat.reduceAdd,Nat.reduceSub,Array.replicate_succ,Array.replicate_zero,List.push_toArray,List.append_toArray,List.nil_append,List.cons_append]
 go_wp2_with fail
 generalize W.alloc (.cells #[.int .i64 p, .int .i64 K, .int .i64 M] 23)=w0 at HB|-;refine (b0.o w0 HB.o).mono ?_;rintro e w1 ⟨v,rfl,s1,c0⟩;obtain ⟨Av,cv,rfl⟩:=Kd.aQz (Kd.S_R s1);have a0:=Za (HB.o.trans (c0.mono HB.o.size));generalize d1.length=nd at s1|-;clear c0 HB b0 s1;go_wp2;refine cwz [] w1 (by simp) (fun D' hD'=>by simp at hD') (fun w' hkp hsz hos htp hou=> ?_);exact ⟨_,results_tmp2 rfl _ _ _,rfl,hos.trans a0.o.os,htp.trans a0.o.tape,hou.trans a0.o.output,by rw [hsz];exact a0.o.size,fun q hq=>(hkp q (Zp hq a0.o.size) (by simp)).trans (a0.o.block q hq)⟩
theorem bNz.go (k : Nat) (p K M : Int) (N0 : Nat) (A1 A2 : Option Addr) (c1 c2 : Nat) (l : List (List Int)) (hv : List Bool) (d1 q1 : List (List Int)) (W : World)
  (hd:awz.f k p K M l hv=some (d1,0)) (hq:ayz.f k p K M d1=some (q1,0)) (hN:l.length=N0) (t0:hv.length=N0) (hlen:d1.length+q1.length=N0) (I1:1<=d1.length) (G1:1<=q1.length) (G0:N0<=1000) (hsm: ∀r,r∈l->r.length<=1000000)
  (D0:Kd.C (dM 5 .u8) W A1 l.length l) (Z0:l.length<=c1) (E0:Kd.C Kd.bool W A2 hv.length hv) (W0:hv.length<=c2):
  Calls prog 29 #[.agg #[.int .i64 p, .int .i64 K, .int .i64 M], .slice A1 N0 c1, .slice A2 N0 c2] W fun e w'=> ∃v,e= .returned (.tuple #[v, .int .i64 0])/\Kd.S (dM 5 .u8) 34 w' W.heap.size (fun _=>True) v (setAll (thereF 0 l hv) (d1++q1))/\Below W.heap.size W w':=by
 have u0:=Za (fun (w1:World) (hB:Below W.heap.size W w1)=>awz.calls k p K M A1 c1 l A2 c2 hv d1 0 w1 (Kd.aMz D0 hB) Z0 (Kd.aMz E0 hB) W0 hd);rw [hN,t0] at u0;have F0:=Za (fun (A:Option Addr) (c:Nat) (w1:World) (hC:Kd.C (dM 5 .u8) w1 A d1.length d1) (hc:d1.length<=c)=>ayz.calls k p K M A c d1 q1 0 w1 hC hc hq);have n1:=Za D0;have j1:=Za E0;have HN:=Za hN;have Q1:=Za t0;have M1:=Za hsm;obtain ⟨nd,hnd⟩: ∃m,d1.length=m:=⟨_,rfl⟩;obtain ⟨nq,hnq⟩: ∃m,q1.length=m:=⟨_,rfl⟩;have k0:=Za hnd;have M0:=Za hnq;have HLEN:=Za (show nd+nq=N0 by omega);have hu:=underlying23;have HB:=Za (aoz (Zw W.heap.size W) (.cells #[.int .i64 p, .int .i64 K, .int .i64 M] 23));have HX:=Za (cEz W (.cells #[.int .i64 p, .int .i64 K, .int .i64 M] 23));have V1:1<=nd:=by omega
 have f1:1<=nq:=by omega
 rw [hnd] at F0;clear hd hq hN t0 hlen D0 Z0 E0 W0 hsm I1 G1 hnd hnq;refine (callsIn_wide (n:=8)).1 (callsIn_of_wp_marks func29 rfl trivial (wpIn_wide.2 ?_) rfl);simp only [ntmps29,List.size_toArray,List.length_cons,List.length_nil,Nat.reduceAdd,Nat.reduceSub,Array.replicate_succ,Array.replicate_zero,List.push_toArray,List.append_toArray,List.nil_append,List.cons_append]
 go_wp2_with fail
 generalize W.alloc (.cells #[.int .i64 p, .int .i64 K, .int .i64 M] 23)=w0 at HB HX|-;refine (u0.o w0 HB.o).mono ?_;rintro e w1 ⟨v1,rfl,s1,L0⟩;obtain ⟨Ad,cd,rfl,hcd,K0⟩:=Kd.dwz (Kd.S_R s1);have P0:=Za (HB.o.trans (L0.mono HB.o.size));have A0:=Za (aNz HX.o L0);rw [k0.o] at K0 hcd|-;have X0:=Za (F0.o Ad cd w1 K0 hcd);have S1:=Za s1;have J0:=Za (show W.heap.size<=w0.heap.size from HB.o.size);have q0:w1.cell? ⟨W.heap.size,0,none⟩=some (.int .i64 p):=(abz A0.o 0).trans rfl;have q1':w1.cell? ⟨W.heap.size,1,none⟩=some (.int .i64 K):=(abz A0.o 1).trans rfl;have q2:w1.cell? ⟨W.heap.size,2,none⟩=some (.int .i64 M):=(abz A0.o 2).trans rfl;clear L0 HX HB u0 F0 s1 K0 hcd
 go_wp2_with fail
 refine X0.o.mono ?_;rintro e w2 ⟨v2,rfl,s2,O0⟩;obtain ⟨g2,cq,rfl,T1,z1, -⟩:=Kd.N_form (Kd.S_N s2) (by rw [M0.o];exact f1);have Y0:=Za (P0.o.trans (O0.mono P0.o.size));have d0:=Kd.cMz (Kd.dUz (Kd.cPz (Kd.bDz S1.o) (ok':=fun k=>k<w1.heap.size) (fun k hk=>hk.2.2.1)) O0) J0.o;have c0:=Kd.cPz (Kd.bDz s2) (ok':=fun k=>w1.heap.size<=k) (fun k hk=>hk.2.1);rw [M0.o] at c0|-;rw [k0.o] at d0;have t1:=Za d0;have P1:=Za c0;have r1:=Za (show nd+nq<=1000 by have:=HLEN.o;omega);have y1:=Za (show 0<(d1++q1).length by rw [List.length_append,k0.o];omega);have L1:=Za (show (d1++q1).length=N0 by rw [List.length_append,k0.o,M0.o];exact HLEN.o);have g1:=Za (show W.heap.size<=w1.heap.size from P0.o.size);clear s2 O0 d0 c0 X0 q0 q1' q2 S1
 go_wp2_with ((with_reducible refine amz (b:= .append) (xs:= #[.tmp 30, .tmp 31]) rfl ?_);go_must (at_builtin;refine S_append_rows (dM 5 .u8) (w0:=W) W.heap.size w1.heap.size rfl (.tmp 30) (.tmp 31) 24 34 (.slice none 0 0) 24 rfl underlying24 kr_ rfl (by decide) (by decide) _ d1 q1 g2 nq cq (fun k'=>k'<w1.heap.size) (fun k'=>w1.heap.size<=k') rfl rfl t1.o P1.o (fun k' h1 h2=>by omega) g1.o Y0.o Y0.o.size (by have:=r1.o;have:=k0.o;omega) ?_);intro v3 w3 j0 V0 B1 B0;obtain ⟨o3,a0,rfl, -, -, -⟩:=Kd.N_form (Kd.S_N j0) y1.o;rw [L1.o] at j0|-;have l0:=Za j0;have I0:=Za V0;clear j0 V0 B1 B0)
 have hth:=there.calls A1 A2 N0 c1 N0 c2
 go_wp2_with (first|(go_at_call 58;refine (hth _).mono ?_;rintro e w' ⟨rfl,rfl⟩))
 clear hth;obtain ⟨T,hT⟩: ∃T,thereF 0 l hv=T:=⟨_,rfl⟩;have D1:=Za hT
 have F1:=Za (show∀x,x∈T->x.1<N0/\x.2.length<=1000000 from fun x hx=>by
  rw [<-hT] at hx;have h1:=thereF_lt 0 l hv x hx;rw [HN.o] at h1
  exact ⟨by omega,M1.o _ (fgz 0 l hv x hx)⟩)
 clear hT;have p0:(((w3.alloc (.cells #[.slice (some ⟨o3,0,none⟩) N0 a0] 24)).alloc (.cells #[.slice A1 N0 c1] 24)).alloc (.cells #[.slice A2 N0 c2] 38)).heap[w3.heap.size]?=some (.cells #[.slice (some ⟨o3,0,none⟩) N0 a0] 24 (0,0)):=aPz (aPz (cEz w3 _) _) _;have o0:(((w3.alloc (.cells #[.slice (some ⟨o3,0,none⟩) N0 a0] 24)).alloc (.cells #[.slice A1 N0 c1] 24)).alloc (.cells #[.slice A2 N0 c2] 38)).heap[w3.heap.size+1]?=some (.cells #[.slice A1 N0 c1] 24 (0,0)):=aPz (bBz _ _ _ (by simp)) _;have n0:(((w3.alloc (.cells #[.slice (some ⟨o3,0,none⟩) N0 a0] 24)).alloc (.cells #[.slice A1 N0 c1] 24)).alloc (.cells #[.slice A2 N0 c2] 38)).heap[w3.heap.size+1+1]?=some (.cells #[.slice A2 N0 c2] 38 (0,0)):=bBz _ _ _ (by simp);have r0:Below w3.heap.size w3 (((w3.alloc (.cells #[.slice (some ⟨o3,0,none⟩) N0 a0] 24)).alloc (.cells #[.slice A1 N0 c1] 24)).alloc (.cells #[.slice A2 N0 c2] 38)):=cGz (cGz (aoz (Zw _ _) _) (aoz (Zw _ _) _)) (aoz (Zw _ _) _)
 have hsz:(((w3.alloc (.cells #[.slice (some ⟨o3,0,none⟩) N0 a0] 24)).alloc (.cells #[.slice A1 N0 c1] 24)).alloc (.cells #[.slice A2 N0 c2] 38)).heap.size=w3.heap.size+1+1+1:=by simp
 generalize ((w3.alloc (.cells #[.slice (some ⟨o3,0,none⟩) N0 a0] 24)).alloc (.cells #[.slice A1 N0 c1] 24)).alloc (.cells #[.slice A2 N0 c2] 38)=w4 at p0 o0 n0 r0 hsz|-;obtain ⟨b,hb⟩: ∃b,b=w3.heap.size:=⟨_,rfl⟩;have hB4':=I0.o.trans (r0.mono I0.o.size);have j0:o3<b:=hb▸Kd.S_lt l0.o o3 (by simp [Value.ownBlock]);have N1:W.heap.size<=o3:=Kd.dez l0.o o3 (by simp [Value.ownBlock]);have o1:=Za (Kd.dUz l0.o r0);rw [<-hb] at p0 o0 n0 hsz|-;have a1:=Za p0;have u1:=Za o0;have C1:=Za n0;have y0:=Za hB4';have i0:=Za hsz;have K1:=Za (show Kd.F (dM 5 .u8) w4 (fun k=> ¬(k=o3)) A1 l.length l from Kd.cdz (Kd.csz (C_F (Kd.e7z _ (Kd.heap_int _)) n1.o) (fun k hk _=>hB4'.block k hk)) (fun k hk h=>by have:k<W.heap.size:=hk;omega));have J1:=Za (show Kd.F Kd.bool w4 (fun k=> ¬(k=o3)) A2 hv.length hv from Kd.cdz (Kd.csz (C_F Kd.heap_bool j1.o) (fun k hk _=>hB4'.block k hk)) (fun k hk h=>by have:k<W.heap.size:=hk;omega))
 clear p0 o0 n0 hsz r0 hB4' hb l0 I0;refine (wpIn_wide (n:=8)).1 ?_
 refine e4z (α:=ThX) rfl (by omega) (gf:=93) (lb:= #[.pointer (some ⟨b+1,0,none⟩), .pointer (some ⟨b+1+1,0,none⟩)]) rfl trivial (enters_of func93 kr_ rfl)
  (there_seq (b+1) (b+1+1) w4.heap.size N0 c1 c2 (fun k=>k=o3) A1 A2 l hv w4 w4 K1.o J1.o (Zv _) (Zv _) ⟨Zv _,fun _ _ _=>rfl⟩ HN.o Q1.o (by omega) (by have:=HLEN.o;omega) u1.o C1.o ⟨by have:=i0.o;omega,by omega⟩ ⟨by have:=i0.o;omega,by omega⟩) KpX.trans ?hKb (Zw _ _) (fun _=>rfl)
  (fun pre Wx=>Kd.S (dM 5 .u8) 34 Wx W.heap.size (fun _=>True) (.slice (some ⟨o3,0,none⟩) N0 a0) (setAll (pre.map thK) (d1++q1))/\pre.map thK=T.take pre.length/\RX w4.heap.size o3 o3 o3 w4 Wx)
  ?hI ?hHd ?h0 (fun x=> { tmps:= #[.agg #[.int .i64 p, .int .i64 K, .int .i64 M], .slice A1 N0 c1, .slice A2 N0 c2, .pointer (some ⟨W.heap.size,0,none⟩),undef,undef, .slice none 0 0, .int .i64 0, .slice Ad nd cd, .int .i64 0, .slice (some ⟨g2,0,none⟩) nq cq, .pointer (some ⟨b,0,none⟩), .int .i64 (x.1:Int), .slice x.2.1 x.2.2.2.length x.2.2.1, .tuple #[.slice Ad nd cd, .int .i64 0], .agg #[.int .i64 p, .int .i64 K, .int .i64 M], .slice A1 N0 c1, .slice A2 N0 c2, .tuple #[.slice Ad nd cd, .int .i64 0], .slice Ad nd cd, .int .i64 0, .int .i64 0, .bool false,undef, .tuple #[.slice (some ⟨g2,0,none⟩) nq cq, .int .i64 0], .agg #[.int .i64 p, .int .i64 K, .int .i64 M], .slice Ad nd cd, .tuple #[.slice (some ⟨g2,0,none⟩) nq cq, .int .i64 0], .slice (some ⟨g2,0,none⟩) nq cq, .int .i64 0, .slice Ad nd cd, .slice (some ⟨g2,0,none⟩) nq cq, .slice (some ⟨o3,0,none⟩) N0 a0, .slice A1 N0 c1, .slice A2 N0 c2, .func (.func 93) #[] #[.pointer (some ⟨b+1,0,none⟩), .pointer (some ⟨b+1+1,0,none⟩)], .int .i64 (x.1:Int), .slice x.2.1 x.2.2.2.length x.2.2.1,undef,undef,undef,undef,undef,undef,undef],defers:= [] }) ?assign ?body ?done
 case hKb=>exact fun Wx l o o' hl ho _=>⟨(grownBy_putObj' Wx l o').size,fun k hk _=>World.putObj_heap_other (by omega)⟩
 case hI=>
  rintro s X Y r ⟨h1,h2,h6⟩ hg hr;have hr': ∀q,r=some q-> ∃o:Obj,X.heap[q]?=some o/\o.isCells=false:=fun q e=>(hr q e).2
  refine ⟨S_keepK h1 (fun q oo hq ho=>grownBy_keeps_cells hg hr' hq ho),h2,⟨hg.os.trans h6.os,hg.tape.trans h6.tape,hg.output.trans h6.output,Zt h6.size hg.size,fun k hk q1 q2 q3=>(hg.block k (Zp hk h6.size) (fun e=>by have:=(hr k e.symm).1;omega)).trans (h6.block k hk q1 q2 q3),fun k o ho hn=>(hg.block k (Zp (aUz ho) h6.size) (fun e=>by have:=(hr k e.symm).1;have:=aUz ho;omega)).trans (h6.walks k o ho hn)⟩⟩
 case hHd=>
  rintro m x - X Y r ⟨h0,h1,h2⟩ hg hr;exact ⟨h0,h1,Kd.csz h2 (fun k hk hlt=>hg.block k hlt (fun e=>by have:=(hr k e.symm).1;have:=hk.2;omega))⟩
 case h0=>exact ⟨o1.o,rfl,RX.refl _ _ _ _ _⟩
 case assign=>
  intro l' x Wx K' hK
  gi_wp2
  exact hK
 case body=>
  rintro l' pre ⟨i,A',c',bb⟩ Wx ⟨h1,h2,h6⟩ ⟨f0,U0,C0⟩ hlen;dsimp only at f0 U0 C0|-;rw [D1.o] at f0 hlen;have hxm:=F1.o _ (Zo f0);obtain ⟨nb,hnb⟩: ∃nb,bb.length=nb:=⟨_,rfl⟩;have E1:=Za hnb;have hi:i<N0:=hxm.1
  have O1:=Za (show (pre++ [((i,A',c',bb):ThX)]).map thK=T.take (pre++ [((i,A',c',bb):ThX)]).length by
   rw [List.map_append,h2,List.length_append,List.length_singleton,List.take_add_one,f0]
   rfl)
  have m1:=Za (show setAll ((pre++ [((i,A',c',bb):ThX)]).map thK) (d1++q1)=(setAll (pre.map thK) (d1++q1)).set i bb by
   rw [List.map_append]
   exact setAll_snoc _ _ _)
  have hcl:=clone_b.calls A' c' bb Wx.drew (Kd.cpz (Kd.F_now C0)) hxm.2;rw [hnb] at hcl|-;have k1:=Za hcl;have Q0:Wx.drew.cell? ⟨b,0,none⟩=some (.slice (some ⟨o3,0,none⟩) N0 a0):=(abz (h6.blk a1.o (by have:=i0.o;omega) (by omega) (by omega) (by omega)) 0).trans rfl;have S0:=Za h1;have H1:=Za h6;have T0:=Za (show w4.heap.size<=Wx.heap.size from h6.size);have i1:(0:Int)<=(i:Int):=by omega
  have i2:(i:Int)<(N0:Int):=by omega
  have hmo:prog.follows .mixedOrders=true:=by kernel_rfl
  have z0 := Za (show ∀ (w5 : World) (ua : Option Addr) (uc : Nat), Below Wx.heap.size Wx w5 -> (Kd.int .u8).R 5 w5 Wx.heap.size (fun _ => True) (.slice ua nb uc) bb ->
    ∃v0,w5.cell? ⟨o3,i,none⟩=some v0/\w5.frozen? ⟨o3,i,none⟩=false/\KeepsFrom w4.heap.size Wx (w5.setCell ⟨o3,i,none⟩ (.slice ua nb uc))/\KpX w4.heap.size (fun k=>k=o3) Wx (w5.setCell ⟨o3,i,none⟩ (.slice ua nb uc))/\(fun pre Wx=>Kd.S (dM 5 .u8) 34 Wx W.heap.size (fun _=>True) (.slice (some ⟨o3,0,none⟩) N0 a0) (setAll (pre.map thK) (d1++q1))/\pre.map thK=T.take pre.length/\RX w4.heap.size o3 o3 o3 w4 Wx) (pre++ [((i,A',c',bb):ThX)]) (w5.setCell ⟨o3,i,none⟩ (.slice ua nb uc)) by
   intro w5 ua uc b0 hu;obtain ⟨⟨v0,p1⟩,p2,p3⟩:=S_putrow S0.o (Zt y0.o.size T0.o) b0 hu i hi;have hsc: ∀k,k≠o3->(w5.setCell ⟨o3,i,none⟩ (.slice ua nb uc)).heap[k]?=w5.heap[k]?:=fun k hk=>Below.heap_setCell w5 ⟨o3,i,none⟩ (.slice ua nb uc) k hk
   obtain ⟨U1,H0⟩:=Kd.bFz S0.o o3 (by simp [Value.ownBlock])
   have g0:RX w4.heap.size o3 o3 o3 Wx (w5.setCell ⟨o3,i,none⟩ (.slice ua nb uc)):=⟨b0.os,b0.tape,b0.output,by simpa using b0.size,fun k hk e1 _ _=>(hsc k e1).trans (b0.block k (Zp hk T0.o)),fun k o ho hn=>(hsc k (fun e=>by
    subst e
    rw [H0] at ho;cases ho;cases hn)).trans ((b0.block k (aUz ho)).trans ho)⟩
   exact ⟨v0,p1,p2,⟨g0.size,fun k o _ ho hn=>g0.walks k o ho hn⟩,⟨g0.size,fun k hk he=>g0.block k hk he he he⟩,by rw [m1.o];exact p3,O1.o,H1.o.trans g0⟩)
  clear h1 h2 h6 f0 U0 C0 hlen hxm hcl hnb
  gi_wp2
  refine startIn_ (m:=6) (S:=fun w'=>w'.cell? ⟨b,0,none⟩=some (.slice (some ⟨o3,0,none⟩) N0 a0)) (ds:= [5]) (bA 6 0) kr_ rfl rfl kr_ (by rintro ⟨_,_,h⟩;exact h) (Q0) (fun hHeld=> ?_);refine pu_ 1 39 2 ?_;refine pu_ 2 40 6 ?_;refine tk_ 0 38 7 hHeld ?_;refine one_ (i:=3) (N:=some 41) (bA 6 15) rfl rfl kr_ (by decide) (fun K hK=> ?_);refine goes_ func65 kr_ rfl #[.slice A' nb c'] (by rfl) rfl rfl am_ ?_
  with_reducible refine (k1.o).mono ?_
  rintro e w5 ⟨u,rfl,hu,b0⟩;refine ⟨_,rfl,?_⟩;obtain ⟨ua,uc,rfl⟩:=Kd.aQz hu;rw [E1.o] at hu|-;have b0:=Below.trans (b1z (Zw Wx.heap.size Wx)) b0;obtain ⟨v0,p1,p2,p3⟩:=z0.o w5 ua uc b0 hu;have P3:=Za p3;have hc8':=a3z (show Below Wx.heap.size Wx w5 from b0) Q0;clear p3 hu b0;refine hK.out _ _ (hc8') (fun hHeld=> ?_);clear hK K;refine norm_ (a':= ?_) ?_ ?_;rotate_left
  ·show Act.put _ (some 41) _=_;simp only [Act.put,Zg,Zh,Zi,i64_w,i32_w];rfl
  refine pu_ 4 42 31 ?_;refine last_ (i:=5) (N:=none) (bA 6 63) rfl rfl kr_ (by decide) (fun K hK=> ?_);refine skip_ (w1:= ?_) (by rfl) rfl ?_ ?_;rotate_left
  ·go_simp;rfl
  refine hK.out _ _ ?_;clear hK K;refine done_ kr_ ?_;exact P3.o
 case done=>
  rintro D xs Wx hD hxs ⟨h1,h2,h6⟩ b1;rw [hxs] at h1;have R1:=Za h1;have hB:=y0.o.trans (show Below W.heap.size w4 Wx from ⟨h6.os,h6.tape,h6.output,h6.size,fun k hk=>h6.block k (by have:=i0.o;omega) (by omega) (by omega) (by omega)⟩);have e0:=Za hB;have Q0:Wx.cell? ⟨b,0,none⟩=some (.slice (some ⟨o3,0,none⟩) N0 a0):=(abz (h6.blk a1.o (by have:=i0.o;omega) (by omega) (by omega) (by omega)) 0).trans rfl;have R0:=Za b1;have l1:=Za hD;clear h1 h2 h6 b1 hD hB hxs;simp only [Exit.inBlock,Exit.then];go_wp2;refine cwz [D] Wx (by simp) (fun D' hD'=>by rw [List.mem_singleton] at hD';rw [hD'];exact R0.o) (fun w' hkp hsz hos htp hou=> ?_)
  have hcc: ∀(q:Nat) (oo:Obj),Wx.heap[q]?=some oo->oo.isCells=true->w'.heap[q]?=Wx.heap[q]?:=fun q oo hq ho=>hkp q (aUz hq) (fun hm=>by
   rw [List.mem_singleton] at hm;subst hm
   rw [R0.o] at hq;cases hq;cases ho)
  exact ⟨_,results_tmp2 rfl _ _ _,_,rfl,S_keepK R1.o hcc,hos.trans e0.o.os,htp.trans e0.o.tape,hou.trans e0.o.output,by rw [hsz];exact e0.o.size,fun q hq=>(hkp q (Zp hq e0.o.size) (fun hm=>by
   rw [List.mem_singleton] at hm;have:=l1.o;have:=y0.o.size
   omega)).trans (e0.o.block q hq)⟩
theorem bNz.calls (k:Nat) (a0 b0 c0:Int) (A1:Option Addr) (c1:Nat) (l1:List (List Int)) (A2:Option Addr) (c2:Nat) (l2:List Bool) (r1:List (List Int)) (r2:Int) (w:World) (g0:Kd.C (Kd.slice 5 (Kd.int .u8)) w A1 l1.length l1) (f0:l1.length<=c1) (e0:Kd.C Kd.bool w A2 l2.length l2) (i0:l2.length<=c2) (h:bNz.f k a0 b0 c0 l1 l2=some (r1,r2)):
  Calls prog 29 #[.agg #[.int .i64 a0, .int .i64 b0, .int .i64 c0], .slice A1 l1.length c1, .slice A2 l2.length c2] w fun e w'=> ∃d0:Value,e= .returned (.tuple #[d0, .int .i64 r2])/\Kd.S (Kd.slice 5 (Kd.int .u8)) 34 w' w.heap.size (fun _=>True) d0 r1/\Below w.heap.size w w':=by
 unfold bNz.f at h;obtain ⟨⟨d1,d2⟩,hd,h⟩:=Option.bind_eq_some_iff.1 h;dsimp only at h;by_cases h0:d2=0
 ·subst h0;rw [Ya rfl] at h;obtain ⟨⟨q1,q2⟩,hq,h⟩:=Option.bind_eq_some_iff.1 h;unfold bNz.g at h;dsimp only at h
  have cut: ∀ {p:Prop} [Decidable p] {a:Option (List (List Int)×Int)},(if p then a else none)=some (r1,r2)->p/\a=some (r1,r2):=by
   intro p _ a hh;by_cases hp:p
   ·rw [Ya hp] at hh;exact ⟨hp,hh⟩
   ·rw [Yb hp] at hh;cases hh
  obtain ⟨e1,h⟩:=cut h;obtain ⟨e2,h⟩:=cut h;obtain ⟨e3,h⟩:=cut h;obtain ⟨e4,h⟩:=cut h;obtain ⟨e5,h⟩:=cut h;simp only [Zx,Zy] at h;obtain ⟨rfl,rfl⟩:=h;subst e1
  have hsm: ∀r,r∈l1->r.length<=1000000:=by
   simp only [ayz.small,Bool.and_eq_true,decide_eq_true_eq,List.all_eq_true] at e5;exact e5.2
  have:=bNz.go k a0 b0 c0 l1.length A1 A2 c1 c2 l1 l2 d1 q1 w hd hq rfl e3 (by rw [<-List.length_append];exact e2) e4.1 e4.2.1 e4.2.2 hsm g0 f0 e0 i0;rw [<-e3] at this|-;rw [e3] at this|-;exact this
 ·rw [Yb h0] at h;simp only [Zx,Zy] at h;obtain ⟨rfl,rfl⟩:=h;refine (bNz.bad k a0 b0 c0 A1 A2 c1 c2 l1 l2 d1 d2 w hd h0 g0 f0 e0 i0).mono ?_;rintro e w' ⟨rfl,hB⟩;exact ⟨_,rfl,Kd.S_nil _ _ _ _ _,hB⟩
end Go.Proofs.Xc
end
section
namespace Go.Proofs.Xc
open Go.RowKit Go.Proofs.Pw Go.Proofs.Pl Go.Proofs.Pm Tryz
attribute [local go_sem] a7z a8z bgz bhz aVz aWz a9z baz
def cuz.f (_:Nat):Option (Bool):=some true
theorem awake12.one:bNz.f 40 1 2 1 [[], [97,98], [99,100]] [false,true,true] =some ([[2,6], [97,98], [99,100]],0):=by kernel_rfl
theorem awake12.two:bNz.f 40 1 2 1 [[], [], [99,100]] [false,false,true] =some ([],5):=by kernel_rfl
theorem C_cells {W:World} {g:Nat} {vs:List Value} {xs:List (List Int)} (h:W.heap[g]?=some (.cells vs.toArray 34 (0,0))) (hl:xs.length<=1000) (hk: ∀(j:Nat) (x:List Int),xs[j]?=some x-> ∃(A:Option Addr) (c:Nat),vs[j]?=some (.slice A x.length c)/\x.length<=c/\Kd.C (Kd.int .u8) W A x.length x):
  Kd.C (Kd.slice 5 (Kd.int .u8)) W (some ⟨g,0,none⟩) xs.length xs:=by
 refine ⟨rfl,by omega,fun _=>⟨_,rfl,fun j p hp=> ?_⟩⟩;obtain ⟨A,c,hv,hc,hC⟩:=hk j p hp;refine ⟨[.slice A p.length c],rfl,⟨A,c,rfl,hc,hC⟩,fun i u hu=> ?_⟩
 cases i with
 |succ i=>simp at hu
 |zero=>
  obtain rfl:Value.slice A p.length c=u:=by simpa using hu
  rw [show (⟨g,0,none⟩:Addr).add (j*(Kd.slice 5 (Kd.int .u8)).sz+0)=⟨g,j,none⟩ from by
   show (⟨g,0,none⟩:Addr).add (j*1+0)=_;unfold Addr.add
   split<;>simp_all,abz h j]
  simpa using hv
theorem C_bools {W:World} {g:Nat} {t:TypeId} {xs:List Bool} (h:W.heap[g]?=some (.cells (xs.map Value.bool).toArray t (0,0))) (hl:xs.length<=1000):Kd.C Kd.bool W (some ⟨g,0,none⟩) xs.length xs:=by
 refine ⟨rfl,by omega,fun _=>⟨_,rfl,fun j p hp=>⟨[.bool p],rfl,rfl,fun i u hu=> ?_⟩⟩⟩
 cases i with
 |succ i=>simp at hu
 |zero=>
  obtain rfl:Value.bool p=u:=by simpa using hu
  rw [show (⟨g,0,none⟩:Addr).add (j*Kd.bool.sz+0)=⟨g,j,none⟩ from by
   show (⟨g,0,none⟩:Addr).add (j*1+0)=_;unfold Addr.add
   split<;>simp_all,abz h j]
  simp [hp]
theorem C_nil8 (W:World):Kd.C (Kd.int .u8) W none 0 [] :=⟨rfl,by omega,fun h=>Yf h (by omega)⟩
theorem cuz.calls (k:Nat) (r:Bool) (w:World) (h:cuz.f k=some r):
  Calls prog 26 #[] w fun e w'=>e= .returned (.bool r)/\Below w.heap.size w w':=by
  obtain rfl:true=r:=by injection h
  clear h;have kc:=fun (w:World) (C:Array Value) (n c:Nat)=>Lib.run_convert_bytes_const (P:=prog) w 34 5 C n c underlying34 underlying5
  have kd : ∀ (W : World) (o : Obj) (C : Array Value) (n c : Nat), Sem.run prog (convert 34 34 (.slice (some ⟨W.heap.size + 1, 0, none⟩) n c)) ((W.alloc o).alloc (.cells C 5)) = Result.ok (.slice (some ⟨W.heap.size + 1, 0, none⟩) n c) ((W.alloc o).alloc (.cells C 5 (C.size, C.size + 1))) := fun W o C n c => by
    have h:=kc (W.alloc o) C n c;rw [World.size_alloc] at h;exact h
  have ke : ∀ (W : World) (o o' : Obj) (C : Array Value) (n c : Nat), Sem.run prog (convert 34 34 (.slice (some ⟨W.heap.size + 1 + 1, 0, none⟩) n c)) (((W.alloc o).alloc o').alloc (.cells C 5)) = Result.ok (.slice (some ⟨W.heap.size + 1 + 1, 0, none⟩) n c) (((W.alloc o).alloc o').alloc (.cells C 5 (C.size, C.size + 1))) := fun W o o' C n c => by
    have h:=kc ((W.alloc o).alloc o') C n c;rw [World.size_alloc,World.size_alloc] at h;exact h
  have p0:=Za (fun (W:World) (A B:Option Addr) (hr:Kd.C (Kd.slice 5 (Kd.int .u8)) W A 3 [[], [97,98], [99,100]]) (hb:Kd.C Kd.bool W B 3 [false,true,true])=>bNz.calls 40 1 2 1 A 3 [[], [97,98], [99,100]] B 3 [false,true,true] [[2,6], [97,98], [99,100]] 0 W hr (by decide) hb (by decide) awake12.one);have n0:=Za (fun (W:World) (A B:Option Addr) (hr:Kd.C (Kd.slice 5 (Kd.int .u8)) W A 3 [[], [], [99,100]]) (hb:Kd.C Kd.bool W B 3 [false,false,true])=>bNz.calls 40 1 2 1 A 3 [[], [], [99,100]] B 3 [false,false,true] [] 5 W hr (by decide) hb (by decide) awake12.two);have hu:=underlying23;go_enter func26,ntmps26
  go_wp2_with fail
  have h0:(((((w.alloc (.cells #[.int .i64 1, .int .i64 2, .int .i64 1] 23)).alloc (.cells #[.int .u8 97, .int .u8 98] 5 (2,3))).alloc (.cells #[.int .u8 99, .int .u8 100] 5 (2,3))).alloc (.cells #[.slice none 0 0, .slice (some ⟨w.heap.size+1,0,none⟩) 2 2, .slice (some ⟨w.heap.size+1+1,0,none⟩) 2 2] 34)).alloc (.cells #[.bool false, .bool true, .bool true] 4)).heap[w.heap.size]?=some (.cells #[.int .i64 1, .int .i64 2, .int .i64 1] 23):=aPz (aPz (aPz (aPz (cEz w _) _) _) _) _;have g0:(((((w.alloc (.cells #[.int .i64 1, .int .i64 2, .int .i64 1] 23)).alloc (.cells #[.int .u8 97, .int .u8 98] 5 (2,3))).alloc (.cells #[.int .u8 99, .int .u8 100] 5 (2,3))).alloc (.cells #[.slice none 0 0, .slice (some ⟨w.heap.size+1,0,none⟩) 2 2, .slice (some ⟨w.heap.size+1+1,0,none⟩) 2 2] 34)).alloc (.cells #[.bool false, .bool true, .bool true] 4)).heap[w.heap.size+1]?=some (.cells #[.int .u8 97, .int .u8 98] 5 (2,3)):=aPz (aPz (aPz (bBz _ _ _ (by simp)) _) _) _
  have k0:(((((w.alloc (.cells #[.int .i64 1, .int .i64 2, .int .i64 1] 23)).alloc (.cells #[.int .u8 97, .int .u8 98] 5 (2,3))).alloc (.cells #[.int .u8 99, .int .u8 100] 5 (2,3))).alloc (.cells #[.slice none 0 0, .slice (some ⟨w.heap.size+1,0,none⟩) 2 2, .slice (some ⟨w.heap.size+1+1,0,none⟩) 2 2] 34)).alloc (.cells #[.bool false, .bool true, .bool true] 4)).heap[w.heap.size+1+1]?=some (.cells #[.int .u8 99, .int .u8 100] 5 (2,3)):=aPz (aPz (bBz _ _ _ (by simp)) _) _;have c0:(((((w.alloc (.cells #[.int .i64 1, .int .i64 2, .int .i64 1] 23)).alloc (.cells #[.int .u8 97, .int .u8 98] 5 (2,3))).alloc (.cells #[.int .u8 99, .int .u8 100] 5 (2,3))).alloc (.cells #[.slice none 0 0, .slice (some ⟨w.heap.size+1,0,none⟩) 2 2, .slice (some ⟨w.heap.size+1+1,0,none⟩) 2 2] 34)).alloc (.cells #[.bool false, .bool true, .bool true] 4)).heap[w.heap.size+1+1+1]?=some (.cells #[.slice none 0 0, .slice (some ⟨w.heap.size+1,0,none⟩) 2 2, .slice (some ⟨w.heap.size+1+1,0,none⟩) 2 2] 34):=aPz (bBz _ _ _ (by simp)) _
  have i0:(((((w.alloc (.cells #[.int .i64 1, .int .i64 2, .int .i64 1] 23)).alloc (.cells #[.int .u8 97, .int .u8 98] 5 (2,3))).alloc (.cells #[.int .u8 99, .int .u8 100] 5 (2,3))).alloc (.cells #[.slice none 0 0, .slice (some ⟨w.heap.size+1,0,none⟩) 2 2, .slice (some ⟨w.heap.size+1+1,0,none⟩) 2 2] 34)).alloc (.cells #[.bool false, .bool true, .bool true] 4)).heap[w.heap.size+1+1+1+1]?=some (.cells #[.bool false, .bool true, .bool true] 4):=bBz _ _ _ (by simp);have hB:Below w.heap.size w (((((w.alloc (.cells #[.int .i64 1, .int .i64 2, .int .i64 1] 23)).alloc (.cells #[.int .u8 97, .int .u8 98] 5 (2,3))).alloc (.cells #[.int .u8 99, .int .u8 100] 5 (2,3))).alloc (.cells #[.slice none 0 0, .slice (some ⟨w.heap.size+1,0,none⟩) 2 2, .slice (some ⟨w.heap.size+1+1,0,none⟩) 2 2] 34)).alloc (.cells #[.bool false, .bool true, .bool true] 4)):=aoz (aoz (aoz (aoz (aoz (Zw _ _) _) _) _) _) _;generalize ((((w.alloc (.cells #[.int .i64 1, .int .i64 2, .int .i64 1] 23)).alloc (.cells #[.int .u8 97, .int .u8 98] 5 (2,3))).alloc (.cells #[.int .u8 99, .int .u8 100] 5 (2,3))).alloc (.cells #[.slice none 0 0, .slice (some ⟨w.heap.size+1,0,none⟩) 2 2, .slice (some ⟨w.heap.size+1+1,0,none⟩) 2 2] 34)).alloc (.cells #[.bool false, .bool true, .bool true] 4)=w0 at h0 g0 k0 c0 i0 hB|-
  have hcc := C_cells (vs := [.slice none 0 0, .slice (some ⟨w.heap.size + 1, 0, none⟩) 2 2, .slice (some ⟨w.heap.size + 1 + 1, 0, none⟩) 2 2]) (xs := [[], [97, 98], [99, 100]]) c0 (by decide) (fun j x hx => by
    match j,hx with
    | 0, hx => obtain rfl : [] = x := by simpa using hx
               exact ⟨none,0,rfl,Zv _,C_nil8 _⟩
    | 1, hx => obtain rfl : [97, 98] = x := by simpa using hx
               exact ⟨_,2,rfl,Zv _,C_numsF (xs:= [97,98]) (fr:=(2,3)) g0 (by decide)⟩
    | 2, hx => obtain rfl : [99, 100] = x := by simpa using hx
               exact ⟨_,2,rfl,Zv _,C_numsF (xs:= [99,100]) (fr:=(2,3)) k0 (by decide)⟩
    |j+3,hx=>simp at hx)
  refine (p0.o w0 _ _ hcc (C_bools (xs:= [false,true,true]) i0 (by decide))).mono ?_;rintro e w1 ⟨v,rfl,s1,b1⟩;have o0:=Za (hB.trans (b1.mono hB.size));have e0:=Za (aNz h0 b1);obtain ⟨gg,c,rfl, -, -, -⟩:=Kd.N_form (Kd.S_N s1) (by decide);obtain ⟨-,hc,hC⟩:=Kd.bpz (Kd.S_N s1);have HC:=Za hC;obtain ⟨ad,A2,c2,he,e2, -,C2⟩:=cjz hC 0 [2,6] rfl;obtain rfl:=Zn he;rw [cRz] at e2;have u0:=Za e2;have r0:=Za C2;have q0:([[2,6], [97,98], [99,100]] :List (List Int)).length=3:=rfl;rw [q0] at HC hc|-;have t0:w1.cell? ⟨w.heap.size,0,none⟩=some (.int .i64 1):=(abz e0.o 0).trans rfl;have y0:w1.cell? ⟨w.heap.size,1,none⟩=some (.int .i64 2):=(abz e0.o 1).trans rfl;have z0:w1.cell? ⟨w.heap.size,2,none⟩=some (.int .i64 1):=(abz e0.o 2).trans rfl;clear h0 g0 k0 c0 i0 hB hcc s1 b1 hC he C2 e2 p0 q0
  go_wp2_with fail
  have j0:(((w1.alloc (.cells #[.int .u8 99, .int .u8 100] 5 (2,3))).alloc (.cells #[.slice none 0 0, .slice none 0 0, .slice (some ⟨w1.heap.size,0,none⟩) 2 2] 34)).alloc (.cells #[.bool false, .bool false, .bool true] 4)).heap[w1.heap.size]?=some (.cells #[.int .u8 99, .int .u8 100] 5 (2,3)):=aPz (aPz (cEz w1 _) _) _;have d0:(((w1.alloc (.cells #[.int .u8 99, .int .u8 100] 5 (2,3))).alloc (.cells #[.slice none 0 0, .slice none 0 0, .slice (some ⟨w1.heap.size,0,none⟩) 2 2] 34)).alloc (.cells #[.bool false, .bool false, .bool true] 4)).heap[w1.heap.size+1]?=some (.cells #[.slice none 0 0, .slice none 0 0, .slice (some ⟨w1.heap.size,0,none⟩) 2 2] 34):=aPz (bBz _ _ _ (by simp)) _;have f0:(((w1.alloc (.cells #[.int .u8 99, .int .u8 100] 5 (2,3))).alloc (.cells #[.slice none 0 0, .slice none 0 0, .slice (some ⟨w1.heap.size,0,none⟩) 2 2] 34)).alloc (.cells #[.bool false, .bool false, .bool true] 4)).heap[w1.heap.size+1+1]?=some (.cells #[.bool false, .bool false, .bool true] 4):=bBz _ _ _ (by simp)
  have b0:Below w1.heap.size w1 (((w1.alloc (.cells #[.int .u8 99, .int .u8 100] 5 (2,3))).alloc (.cells #[.slice none 0 0, .slice none 0 0, .slice (some ⟨w1.heap.size,0,none⟩) 2 2] 34)).alloc (.cells #[.bool false, .bool false, .bool true] 4)):=aoz (aoz (aoz (Zw _ _) _) _) _;generalize ((w1.alloc (.cells #[.int .u8 99, .int .u8 100] 5 (2,3))).alloc (.cells #[.slice none 0 0, .slice none 0 0, .slice (some ⟨w1.heap.size,0,none⟩) 2 2] 34)).alloc (.cells #[.bool false, .bool false, .bool true] 4)=w3 at j0 d0 f0 b0|-
  have hcc := C_cells (vs := [.slice none 0 0, .slice none 0 0, .slice (some ⟨w1.heap.size, 0, none⟩) 2 2]) (xs := [[], [], [99, 100]]) d0 (by decide) (fun j x hx => by
    match j,hx with
    | 0, hx => obtain rfl : [] = x := by simpa using hx
               exact ⟨none,0,rfl,Zv _,C_nil8 _⟩
    | 1, hx => obtain rfl : [] = x := by simpa using hx
               exact ⟨none,0,rfl,Zv _,C_nil8 _⟩
    | 2, hx => obtain rfl : [99, 100] = x := by simpa using hx
               exact ⟨_,2,rfl,Zv _,C_numsF (xs:= [99,100]) (fr:=(2,3)) j0 (by decide)⟩
    |j+3,hx=>simp at hx)
  refine (n0.o w3 _ _ hcc (C_bools (xs:= [false,false,true]) f0 (by decide))).mono ?_;rintro e w4 ⟨v4,rfl,s4,b4⟩;obtain ⟨A4,c4,rfl⟩:=Kd.aQz (Kd.S_R s4);have a0:=b0.trans (b4.mono b0.size);have v0:=Za (o0.o.trans (a0.mono o0.o.size));have hst:=Kd.C_string (P:=prog) (c:=c2) underlying34 underlying5 underlying9 (Kd.aMz r0.o a0);have hss:(strOfNums [2,6] :ByteArray)=⟨#[2,6]⟩:=by kernel_rfl
  rw [hss] at hst;have e2:w4.cell? ⟨gg,0,none⟩=some (.slice A2 ([2,6] :List Int).length c2):=a3z a0 u0.o;have l0:([2,6] :List Int).length=2:=rfl;rw [l0] at hst e2;clear j0 d0 f0 b0 hcc s4 b4 a0 n0 kc kd ke t0 y0 z0 hss l0;go_wp2;go_ret;exact ⟨rfl,v0.o⟩
def bfz.l0:Nat->List (List Int)->List (List Int)->Int->Option (Bool)
 |0,_,_,_=>none
 |k+1,x0,x1,x5=>if x5<(x0.length:Int) then (if 0<=x5 then (if x5<(x1.length:Int) then (if (strOfNums (x0.getD x5.toNat [])).toList=(strOfNums (x1.getD x5.toNat [])).toList then (bfz.l0 k x0 x1 (wrap64 (x5+1))) else (some false)) else (none)) else (none)) else (some true)
def bfz.f (k:Nat) (l0:List (List Int)) (l1:List (List Int)):Option (Bool):=if (l0.length:Int)=(l1.length:Int) then (bfz.l0 k l0 l1 0) else (some false)
theorem bfz.calls (k:Nat) (A0:Option Addr) (c0:Nat) (l0:List (List Int)) (A1:Option Addr) (c1:Nat) (l1:List (List Int)) (r:Bool) (w:World) (f0:Kd.C (Kd.slice 5 (Kd.int .u8)) w A0 l0.length l0) (q0:l0.length<=c0) (k0:Kd.C (Kd.slice 5 (Kd.int .u8)) w A1 l1.length l1) (r0:l1.length<=c1) (h:bfz.f k l0 l1=some r):
  Calls prog 21 #[.slice A0 l0.length c0, .slice A1 l1.length c1] w fun e w'=>e= .returned (.bool r)/\Drawn0 w w':=by
 have t0:=Za f0;have p0:=Za k0;unfold bfz.f at h;by_cases hl:(l0.length:Int)=(l1.length:Int)
 case neg=>
  rw [Yb hl] at h;obtain rfl:=Zn h;generalize l0.length=n0 at hl|-;generalize l1.length=n1 at hl|-;have b1:((n0:Int) !=(n1:Int))=true:=bne_iff_ne.2 hl;clear hl h f0 k0 q0 r0;go_enter func21,ntmps21;go_wp2;go_ret;exact ⟨rfl,Drawn0.refl _⟩
 rw [Ya hl] at h;obtain ⟨n,hn⟩: ∃n,l0.length=n:=⟨_,rfl⟩;have o0:l1.length=n:=by omega
 have g0:=Za hn;have i0:=Za o0;have HH:=Za h;have HM:=Za (show n<=9223372036854775807 from hn▸f0.2.1);rw [hn] at t0|-;rw [o0] at p0|-;have b1:((n:Int) !=(n:Int))=false:=by simp
 clear hl h f0 k0 q0 r0 hn o0;go_enter func21,ntmps21;go_wp2
 go_loopw [5] (fun iv wr=> ∃i kk m:Nat,i<=n/\iv= .int .i64 (i:Int)/\wr=w.drewN m/\Aside0 (bfz.l0 kk l0 l1 (i:Int)=some r)) (fun iv _=>n - (intOf iv).toNat)
 case atStart=>exact ⟨0,k,0,Nat.zero_le _,rfl,rfl,HH⟩
 clear HH b1;obtain ⟨i,kk,m,hi,rfl,e0,HH⟩:=hrel;have h0:=Za e0;have w0:=Za (show Kd.C (Kd.slice 5 (Kd.int .u8)) wr A0 n l0 by rw [e0];exact Kd.bEz t0.o m);have v0:=Za (show Kd.C (Kd.slice 5 (Kd.int .u8)) wr A1 n l1 by rw [e0];exact Kd.bEz p0.o m);clear e0;obtain ⟨wq,rfl⟩: ∃wq,wq=wr:=⟨_,rfl⟩;have h:=HH.o;rcases kk with _|kk
 ·exact Yf h (by simp [bfz.l0])
 unfold bfz.l0 at h;by_cases hlt:i<n
 ·obtain ⟨x,hx⟩: ∃x,l0[i]?=some x:=⟨_,Zf (by have:=g0.o;omega)⟩;obtain ⟨y,hy⟩: ∃y,l1[i]?=some y:=⟨_,Zf (by have:=i0.o;omega)⟩;rw [Ya (by rw [g0.o];omega),Ya (by omega),Ya (by rw [i0.o];omega),Zu,Zm,hx,Zm,hy] at h;obtain ⟨ad,A',ca,rfl,hcx, -,hX⟩:=cjz (g0.o.symm▸w0.o) i x hx;obtain ⟨bd,B',cb,rfl,hcy, -,hY⟩:=cjz (i0.o.symm▸v0.o) i y hy;have b0:=Kd.C_string (P:=prog) (A:=A') (c:=ca) underlying34 underlying5 underlying9 (Kd.bEz hX 1);have d0:=Kd.C_string (P:=prog) (A:=B') (c:=cb) underlying34 underlying5 underlying9 (Kd.bEz hY 1);simp only [Option.getD_some] at h;generalize x.length=xl at hcx b0;generalize y.length=yl at hcy d0;have i1:(0:Int)<=(i:Int):=by omega
  have i2:(i:Int)<(n:Int):=by omega
  have hcv1':=b0;have hcv2':=d0;rw [show wq.drewN 1=wq.drew from rfl] at hcv1' hcv2';clear hx hy hX hY b0 d0;have j0:=Za (show wrap64 ((i:Int)+1)=((i+1:Nat):Int) by have:=HM.o;unfold wrap64;omega);by_cases heq:(strOfNums x).toList=(strOfNums y).toList
  ·rw [Ya heq] at h;have e1:((strOfNums x).toList==(strOfNums y).toList)=true:=beq_iff_eq.2 heq;have e2:((strOfNums x).toList !=(strOfNums y).toList)=false:=bne_eq_false_iff_eq.2 heq;rw [j0.o] at h;have u0:=Za h;clear heq h;generalize strOfNums x=sx at hcv1' e1 e2;generalize strOfNums y=sy at hcv2' e1 e2
   go_wp2_with fail
   refine ccz (n:=11) (S:=fun w'=>w'.cell? (ad.add i)=some (.slice A' xl ca)/\w'.cell? (bd.add i)=some (.slice B' yl cb)) (ds:= []) (bA 11 0) kr_ rfl rfl ⟨hcx,hcy⟩ (fun hHeld=> ?_);refine pu_ 0 17 1 ?_;refine pu_ 1 18 3 ?_;refine pu_ 2 19 7 ?_;refine pu_ 5 22 39 ?_;refine pu_ 6 23 103 ?_;refine pu_ 7 24 231 ?_;refine tk_ 3 20 239 hHeld ?_;refine tk_ 8 25 495 hHeld ?_;refine join_ (σ:=Unit) 1 (bA 11 1023) (fun _=> [(21, .string sx),(26, .string sy)]) (fun _ w'=>w'=wq.drew) ?_ ?_;rotate_left
   ·intro a0;refine two_ (i:=4) (j:=9) (Ni:=some 21) (Nj:=some 26) (bA 11 511) (bA 11 1007) rfl rfl rfl rfl kr_ (by decide) (by decide) (fun K hK=> ?_) (fun K hK=> ?_)
    ·skip
     refine chz (w1:= ?_) (v:= ?_) (by rfl) rfl ?_ ?_;rotate_left 2
     ·go_simp;constructor
      ·rfl
      ·rfl
     refine hK.out _ _ ⟨hcx,hcy⟩ (fun hHeld=> ?_);clear hK K;refine norm_ (a':= ?_) ?_ ?_;rotate_left
     ·show Act.put _ (some 21) _=_;simp only [Act.put,Zg,Zh,Zi,i64_w,i32_w];rfl
     refine one_ (i:=9) (N:=some 26) (bA 11 1023) rfl rfl kr_ (by decide) (fun K hK=> ?_);refine chz (w1:= ?_) (v:= ?_) (by rfl) rfl ?_ ?_;rotate_left 2
     ·go_simp;constructor
      ·rfl
      ·rfl
     refine hK.out _ _ ⟨hcx,hcy⟩ (fun hHeld=> ?_);clear hK K;refine norm_ (a':= ?_) ?_ ?_;rotate_left
     ·show Act.put _ (some 26) _=_;simp only [Act.put,Zg,Zh,Zi,i64_w,i32_w];rfl
     exact norm_ (by simp only [putAll,Act.put,Zg,Zh,Zi]) (a0 () _ rfl)
    ·skip
     refine chz (w1:= ?_) (v:= ?_) (by rfl) rfl ?_ ?_;rotate_left 2
     ·go_simp;constructor
      ·rfl
      ·rfl
     refine hK.out _ _ ⟨hcx,hcy⟩ (fun hHeld=> ?_);clear hK K;refine norm_ (a':= ?_) ?_ ?_;rotate_left
     ·show Act.put _ (some 26) _=_;simp only [Act.put,Zg,Zh,Zi,i64_w,i32_w];rfl
     refine one_ (i:=4) (N:=some 21) (bA 11 1023) rfl rfl kr_ (by decide) (fun K hK=> ?_);refine chz (w1:= ?_) (v:= ?_) (by rfl) rfl ?_ ?_;rotate_left 2
     ·go_simp;constructor
      ·rfl
      ·rfl
     refine hK.out _ _ ⟨hcx,hcy⟩ (fun hHeld=> ?_);clear hK K;refine norm_ (a':= ?_) ?_ ?_;rotate_left
     ·show Act.put _ (some 21) _=_;simp only [Act.put,Zg,Zh,Zi,i64_w,i32_w];rfl
     exact norm_ (by simp only [putAll,Act.put,Zg,Zh,Zi]) (a0 () _ rfl)
   rintro _ w' rfl;have hHeld:wq.drew.cell? (ad.add i)=some (.slice A' xl ca)/\wq.drew.cell? (bd.add i)=some (.slice B' yl cb):=⟨hcx,hcy⟩;refine norm_ (a':= ?_) ?_ ?_;rotate_left
   ·simp only [putAll,Act.put,Zg,Zh,Zi];rfl
   refine pu_ 10 27 2047 ?_;refine done_ kr_ ?_;go_wp2;go_roundw
   case rel=>exact ⟨i+1,kk,m+1,by omega,by rw [j0.o],by rw [h0.o];rfl,u0⟩
   case measure=>rw [j0.o];simp [intOf];omega
  ·rw [Yb heq] at h;obtain rfl:=Zn h;have e1:((strOfNums x).toList==(strOfNums y).toList)=false:=beq_eq_false_iff_ne.2 heq;have e2:((strOfNums x).toList !=(strOfNums y).toList)=true:=bne_iff_ne.2 heq;clear heq h;generalize strOfNums x=sx at hcv1' e1 e2;generalize strOfNums y=sy at hcv2' e1 e2
   go_wp2_with fail
   refine ccz (n:=11) (S:=fun w'=>w'.cell? (ad.add i)=some (.slice A' xl ca)/\w'.cell? (bd.add i)=some (.slice B' yl cb)) (ds:= []) (bA 11 0) kr_ rfl rfl ⟨hcx,hcy⟩ (fun hHeld=> ?_);refine pu_ 0 17 1 ?_;refine pu_ 1 18 3 ?_;refine pu_ 2 19 7 ?_;refine pu_ 5 22 39 ?_;refine pu_ 6 23 103 ?_;refine pu_ 7 24 231 ?_;refine tk_ 3 20 239 hHeld ?_;refine tk_ 8 25 495 hHeld ?_;refine join_ (σ:=Unit) 1 (bA 11 1023) (fun _=> [(21, .string sx),(26, .string sy)]) (fun _ w'=>w'=wq.drew) ?_ ?_;rotate_left
   ·intro a0;refine two_ (i:=4) (j:=9) (Ni:=some 21) (Nj:=some 26) (bA 11 511) (bA 11 1007) rfl rfl rfl rfl kr_ (by decide) (by decide) (fun K hK=> ?_) (fun K hK=> ?_)
    ·skip
     refine chz (w1:= ?_) (v:= ?_) (by rfl) rfl ?_ ?_;rotate_left 2
     ·go_simp;constructor
      ·rfl
      ·rfl
     refine hK.out _ _ ⟨hcx,hcy⟩ (fun hHeld=> ?_);clear hK K;refine norm_ (a':= ?_) ?_ ?_;rotate_left
     ·show Act.put _ (some 21) _=_;simp only [Act.put,Zg,Zh,Zi,i64_w,i32_w];rfl
     refine one_ (i:=9) (N:=some 26) (bA 11 1023) rfl rfl kr_ (by decide) (fun K hK=> ?_);refine chz (w1:= ?_) (v:= ?_) (by rfl) rfl ?_ ?_;rotate_left 2
     ·go_simp;constructor
      ·rfl
      ·rfl
     refine hK.out _ _ ⟨hcx,hcy⟩ (fun hHeld=> ?_);clear hK K;refine norm_ (a':= ?_) ?_ ?_;rotate_left
     ·show Act.put _ (some 26) _=_;simp only [Act.put,Zg,Zh,Zi,i64_w,i32_w];rfl
     exact norm_ (by simp only [putAll,Act.put,Zg,Zh,Zi]) (a0 () _ rfl)
    ·skip
     refine chz (w1:= ?_) (v:= ?_) (by rfl) rfl ?_ ?_;rotate_left 2
     ·go_simp;constructor
      ·rfl
      ·rfl
     refine hK.out _ _ ⟨hcx,hcy⟩ (fun hHeld=> ?_);clear hK K;refine norm_ (a':= ?_) ?_ ?_;rotate_left
     ·show Act.put _ (some 26) _=_;simp only [Act.put,Zg,Zh,Zi,i64_w,i32_w];rfl
     refine one_ (i:=4) (N:=some 21) (bA 11 1023) rfl rfl kr_ (by decide) (fun K hK=> ?_);refine chz (w1:= ?_) (v:= ?_) (by rfl) rfl ?_ ?_;rotate_left 2
     ·go_simp;constructor
      ·rfl
      ·rfl
     refine hK.out _ _ ⟨hcx,hcy⟩ (fun hHeld=> ?_);clear hK K;refine norm_ (a':= ?_) ?_ ?_;rotate_left
     ·show Act.put _ (some 21) _=_;simp only [Act.put,Zg,Zh,Zi,i64_w,i32_w];rfl
     exact norm_ (by simp only [putAll,Act.put,Zg,Zh,Zi]) (a0 () _ rfl)
   rintro _ w' rfl;have hHeld:wq.drew.cell? (ad.add i)=some (.slice A' xl ca)/\wq.drew.cell? (bd.add i)=some (.slice B' yl cb):=⟨hcx,hcy⟩;refine norm_ (a':= ?_) ?_ ?_;rotate_left
   ·simp only [putAll,Act.put,Zg,Zh,Zi];rfl
   refine pu_ 10 27 2047 ?_;refine done_ kr_ ?_;go_wp2;go_ret;exact ⟨rfl,by rw [h0.o];exact ⟨m+1,rfl⟩⟩
 ·rw [Yb (by rw [g0.o];omega)] at h;obtain rfl:=Zn h;clear h;go_wp2;go_ret;exact ⟨rfl,m,h0.o⟩
def bSz.f (k:Nat) (a0_0 a0_1 a0_2:Int) (l1:List Int) (a2_0 a2_1 a2_2:Int) (a2_3:Int):Option (Bool):=(cuz.f k).bind fun t787=>(if (l1.length:Int)>300 then (some t787) else ((cnz.f a0_0 a0_1 a0_2).bind fun bt788=>((b9z.f k bt788.1 bt788.2.1 bt788.2.2 l1).bind fun bt792=>((anz.f k (bt792.1.length:Int) bt788.2.2 (wrap64 (a2_0)) (wrap64 (a2_1))).bind fun t796=>((anz.f k (bt792.1.length:Int) bt788.2.2 (wrap64 (a2_2)) (wrap64 (a2_3))).bind fun t799=>((awz.f k bt788.1 bt788.2.1 bt788.2.2 bt792.1 t796).bind fun bt802=>((awz.f k bt788.1 bt788.2.1 bt788.2.2 bt792.1 t799).bind fun bt806=>(if t787=true then (if bt792.2=0 then (if bt802.2=0 then (if bt806.2=0 then ((bfz.f k bt802.1 bt806.1).bind fun t810=>(if t810=true then (some ((bt802.1.length:Int)==bt788.2.1)) else (some false))) else (some false)) else (some false)) else (some false)) else (some false)))))))))
theorem bSz.calls (k:Nat) (t0 r0 y0:Int) (A1:Option Addr) (c1:Nat) (l1:List Int) (w0 v0 u0 q0:Int) (r:Bool) (w:World) (Y0:Aside0 (r=true)) (C1:Kd.C (Kd.int .u8) w A1 l1.length l1) (H1:l1.length<=c1) (h:bSz.f k t0 r0 y0 l1 w0 v0 u0 q0=some r):
  Calls prog 6 #[.agg #[.int .u8 t0, .int .u8 r0, .int .u8 y0], .slice A1 l1.length c1, .agg #[.int .u8 w0, .int .u8 v0, .int .u8 u0, .int .u8 q0]] w fun e w'=>e= .returned (.bool r)/\Below w.heap.size w w':=by
 have a2:=underlying42;have V1:=underlying43;have b2:=underlying23;have P1:=Za C1;have d2:=Za H1;clear C1 H1;have HB:=Za (Zw w.heap.size w);have H:=h;clear h;unfold bSz.f at H;obtain ⟨d1,A4,H⟩:=ob_ H
 (try dsimp only at H)
 by_cases c5:(l1.length:Int)>300
 ·rw [Ya c5] at H;have v1:decide (300<(l1.length:Int))=true:=Zd c5;have z1:decide (300<l1.length)=true:=Zd (by omega);clear c5;obtain rfl:=Zn H;go_enter func6,ntmps6
  go_wp2_with (first|((with_reducible refine aTz (N:=3) rfl ?_);(try (refine aYz (by rfl) ?_;dsimp only));refine bx_ 3 #[.int .u8 t0, .int .u8 r0, .int .u8 y0] 42 ?_;intro h0 hg w6 k0 hb;have n_:=Zb (hs_ HB hb) (Zb (Za (k0)) (Zb (ag_ HB h0) (ag_ HB h0)));clear HB;obtain ⟨HB,a0,f1,j1⟩:=n_;clear hb k0 hg)|((with_reducible refine aTz (N:=5) rfl ?_);(try (refine aYz (by rfl) ?_;dsimp only));refine bx_ 5 #[.int .u8 w0, .int .u8 v0, .int .u8 u0, .int .u8 q0] 43 ?_;intro e0 hg w7 k0 hb;have n_:=Zb (bb_ a0 hb) (Zb (hs_ HB hb) (Zb (Za (k0)) (Zb (ag_ HB e0) (Zb (ag_ HB e0) (Zb (n1_ a0 e0) (n2_ a0 e0))))));clear a0 HB;obtain ⟨a0,HB,b0,W0,g1,A0,z0⟩:=n_;clear hb k0 hg)|((with_reducible refine aaz (f:=26) rfl ?_);refine gl_ (some 17) func26 #[] ?_;(with_reducible refine (cuz.calls k  d1 _ A4.o).mono ?_);rintro e w8 ⟨rfl,hb⟩;refine ⟨_,rfl,?_⟩;have n_:=Zb (bb_ a0 hb) (Zb (bb_ b0 hb) (hs_ HB hb));clear a0 b0 HB;obtain ⟨a0,b0,HB⟩:=n_;(try clear hb)))
  go_ret;exact ⟨er_,bl_⟩
 ·rw [Yb c5] at H;have v1:decide (300<(l1.length:Int))=false:=Ze c5;have z1:decide (300<l1.length)=false:=Ze (by omega);clear c5;obtain ⟨⟨p0,n0,j0⟩,A9,H⟩:=ob_ H
  (try dsimp only at H)
  obtain ⟨⟨l0,E0⟩,R1,H⟩:=ob_ H
  (try dsimp only at H)
  obtain ⟨K0,Y1,H⟩:=ob_ H
  (try dsimp only at H)
  obtain ⟨N0,S1,H⟩:=ob_ H
  (try dsimp only at H)
  obtain ⟨⟨e1,H0⟩,c2,H⟩:=ob_ H
  (try dsimp only at H)
  obtain ⟨⟨U0,F0⟩,T1,H⟩:=ob_ H
  (try dsimp only at H)
  by_cases o1:d1=true
  rotate_left
  ·replace o1:=Zr o1;subst o1;rw [Yb (show¬(false=true) by decide)] at H;exact Yf ((Zn H).trans Y0.o) (by simp)
  subst o1;rw [Ya rfl] at H;by_cases R0:E0=0
  rotate_left
  ·rw [Yb R0] at H;have k1:(E0==0)=false:=Zq R0;have Z0:(E0 !=0)=true:=Yd R0;exact Yf ((Zn H).trans Y0.o) (by simp)
  rw [Ya R0] at H;have k1:(E0==0)=true:=Ye R0;have Z0:(E0 !=0)=false:=Yc R0;clear R0;by_cases T0:H0=0
  rotate_left
  ·rw [Yb T0] at H;have V0:(H0==0)=false:=Zq T0;have i1:(H0 !=0)=true:=Yd T0;exact Yf ((Zn H).trans Y0.o) (by simp)
  rw [Ya T0] at H;have V0:(H0==0)=true:=Ye T0;have i1:(H0 !=0)=false:=Yc T0;clear T0;by_cases S0:F0=0
  rotate_left
  ·rw [Yb S0] at H;have a1:(F0==0)=false:=Zq S0;have X0:(F0 !=0)=true:=Yd S0;exact Yf ((Zn H).trans Y0.o) (by simp)
  rw [Ya S0] at H;have a1:(F0==0)=true:=Ye S0;have X0:(F0 !=0)=false:=Yc S0;clear S0;obtain ⟨r1,W1,H⟩:=ob_ H
  (try dsimp only at H)
  by_cases n1:r1=true
  ·subst n1;rw [Ya rfl] at H;obtain rfl:=Zn H;go_enter func6,ntmps6
   go_wp2_with (first|((with_reducible refine aTz (N:=3) rfl ?_);(try (refine aYz (by rfl) ?_;dsimp only));refine bx_ 3 #[.int .u8 t0, .int .u8 r0, .int .u8 y0] 42 ?_;intro h0 hg j2 k0 hb;have n_:=Zb (hs_ HB hb) (Zb (Za (k0)) (Zb (ag_ HB h0) (ag_ HB h0)));clear HB;obtain ⟨HB,a0,f1,j1⟩:=n_;clear hb k0 hg)|((with_reducible refine aTz (N:=5) rfl ?_);(try (refine aYz (by rfl) ?_;dsimp only));refine bx_ 5 #[.int .u8 w0, .int .u8 v0, .int .u8 u0, .int .u8 q0] 43 ?_;intro e0 hg i2 k0 hb;have n_:=Zb (bb_ a0 hb) (Zb (hs_ HB hb) (Zb (Za (k0)) (Zb (ag_ HB e0) (Zb (ag_ HB e0) (Zb (n1_ a0 e0) (n2_ a0 e0))))));clear a0 HB;obtain ⟨a0,HB,b0,W0,g1,A0,z0⟩:=n_;clear hb k0 hg)|((with_reducible refine aaz (f:=26) rfl ?_);refine gl_ (some 17) func26 #[] ?_;(with_reducible refine (cuz.calls k  true _ A4.o).mono ?_);rintro e f2 ⟨rfl,hb⟩;refine ⟨_,rfl,?_⟩;have n_:=Zb (bb_ a0 hb) (Zb (bb_ b0 hb) (hs_ HB hb));clear a0 b0 HB;obtain ⟨a0,b0,HB⟩:=n_;(try clear hb);have F1:=A0.o;have E1:=z0.o;obtain ⟨_,_,_,_,_,_⟩:=bc3_ a0.o)|((with_reducible refine aaz (f:=31) rfl ?_);refine gl_ (some 23) func31 #[.agg #[.int .u8 t0, .int .u8 r0, .int .u8 y0]] ?_;(with_reducible refine (cnz.calls t0 r0 y0 p0 n0 j0 _ A9.o).mono ?_);rintro e o2 ⟨rfl,hb⟩;refine ⟨_,rfl,?_⟩;have n_:=Zb (bb_ a0 hb) (Zb (bb_ b0 hb) (hs_ HB hb));clear a0 b0 HB;obtain ⟨a0,b0,HB⟩:=n_;(try clear hb))|((with_reducible refine aTz (N:=8) rfl ?_);(try (refine aYz (by rfl) ?_;dsimp only));refine bx_ 8 #[.int .i64 0, .int .i64 0, .int .i64 0] 23 ?_;intro g0 hg k2 k0 hb;have n_:=Zb (bb_ a0 hb) (Zb (bb_ b0 hb) (Zb (hs_ HB hb) (Zb (Za (k0)) (Zb (ag_ HB g0) (Zb (ag_ HB g0) (Zb (n1_ a0 g0) (Zb (n2_ a0 g0) (Zb (n1_ b0 g0) (n2_ b0 g0)))))))));clear a0 b0 HB;obtain ⟨a0,b0,HB,c0,L1,I1,G0,D0,I0,J0⟩:=n_;clear hb k0 hg;have J1:=D0.o;have D1:=G0.o;have K1:=J0.o;have G1:=I0.o;obtain ⟨_,_,_,_,_,_⟩:=bc3_ c0.o)|((with_reducible refine aaz (f:=25) rfl ?_);refine gl_ (some 27) func25 #[.agg #[.int .i64 p0, .int .i64 n0, .int .i64 j0], .slice A1 l1.length c1] ?_;(with_reducible refine (b9z.calls k p0 n0 j0 _ _ l1 l0 E0 _ (Kd.aMz P1.o bl_) (d2.o) R1.o).mono ?_);rintro e g2 ⟨N1,rfl,B0,hb⟩;refine ⟨_,rfl,?_⟩;have n_:=Zb (Za (Kd.bXz (Kd.b2z (ok':=fun k_=>k_≠h0/\k_≠e0/\k_≠g0) B0 (fun k_ C0=>⟨(Kd.freshB (g:=h0) (o:= .cells #[.int .u8 t0, .int .u8 r0, .int .u8 y0] 42 (0,0)) kb_ k_ C0),(Kd.freshB (g:=e0) (o:= .cells #[.int .u8 w0, .int .u8 v0, .int .u8 u0, .int .u8 q0] 43 (0,0)) kb_ k_ C0),(Kd.freshB (g:=g0) (o:= .cells #[.int .i64 p0, .int .i64 n0, .int .i64 j0] 23 (0,0)) kb_ k_ C0)⟩)) (adz bl_))) (Zb (Za (aNz (g:=h0) (o:= .cells #[.int .u8 t0, .int .u8 r0, .int .u8 y0] 42 (0,0)) kb_ hb)) (Zb (Za (aNz (g:=e0) (o:= .cells #[.int .u8 w0, .int .u8 v0, .int .u8 u0, .int .u8 q0] 43 (0,0)) kb_ hb)) (Zb (Za (aNz (g:=g0) (o:= .cells #[.int .i64 p0, .int .i64 n0, .int .i64 j0] 23 (0,0)) kb_ hb)) (hs_ HB hb))));clear a0 b0 c0 HB;obtain ⟨d0,a0,b0,c0,HB⟩:=n_;clear hb B0;obtain ⟨M0,O0,B1⟩:=Kd.czz d0.o;subst B1;obtain ⟨_,_,_,_,_,_⟩:=bc3_ c0.o;obtain ⟨_,_,_,_,_,_,_,_⟩:=bc4_ b0.o)|((with_reducible refine aaz (f:=32) rfl ?_);refine gl_ (some 40) func32 #[.int .i64 (l0.length:Int), .int .i64 j0, .int .i64 (wrap64 (w0)), .int .i64 (wrap64 (v0))] ?_;(with_reducible refine (anz.calls k (l0.length:Int) j0 (wrap64 (w0)) (wrap64 (v0)) K0 _ Y1.o).mono ?_);rintro e m2 ⟨M1,rfl,B0,hb⟩;refine ⟨_,rfl,?_⟩;have n_:=Zb (Za (Kd.bYz (xd_ d0.o) (Kd.cbz B0) hb)) (Zb (Za (Kd.bCz B0 (adz bl_))) (Zb (bb_ a0 hb) (Zb (bb_ b0 hb) (Zb (bb_ c0 hb) (hs_ HB hb)))));clear d0 a0 b0 c0 HB;obtain ⟨d0,f0,a0,b0,c0,HB⟩:=n_;clear hb B0;obtain ⟨_,_,_,_,_,_⟩:=bc3_ c0.o;obtain ⟨_,_,_,_,_,_,_,_⟩:=bc4_ b0.o)|((with_reducible refine aaz (f:=32) rfl ?_);refine gl_ (some 51) func32 #[.int .i64 (l0.length:Int), .int .i64 j0, .int .i64 (wrap64 (u0)), .int .i64 (wrap64 (q0))] ?_;(with_reducible refine (anz.calls k (l0.length:Int) j0 (wrap64 (u0)) (wrap64 (q0)) N0 _ S1.o).mono ?_);rintro e n2 ⟨s1,rfl,B0,hb⟩;refine ⟨_,rfl,?_⟩;have n_:=Zb (Za (Kd.bYz (xd_ d0.o) (Kd.cbz B0) hb)) (Zb (Za (Kd.dNz (xd_ f0.o) (Kd.cbz B0) hb)) (Zb (Za (Kd.bCz (Kd.R_new' B0 (Kd.R_lt (xd_ f0.o))) (adz bl_))) (Zb (bb_ a0 hb) (Zb (bb_ b0 hb) (Zb (bb_ c0 hb) (hs_ HB hb))))));clear d0 f0 a0 b0 c0 HB;obtain ⟨d0,f0,i0,a0,b0,c0,HB⟩:=n_;clear hb B0;obtain ⟨_,_,_,_,_,_⟩:=bc3_ c0.o;obtain ⟨Q0,P0,p1⟩:=Kd.aQz f0.o;subst p1)|((with_reducible refine aaz (f:=27) rfl ?_);refine gl_ (some 56) func27 #[.agg #[.int .i64 p0, .int .i64 n0, .int .i64 j0], .slice M0 l0.length O0, .slice Q0 K0.length P0] ?_;(with_reducible refine (awz.calls k p0 n0 j0 _ _ l0 _ _ K0 e1 H0 _ (xd_ (Kd.bpz d0.o).2.2) ((Kd.bpz d0.o).2.1) (xd_ (Kd.aHz f0.o).2.2) ((Kd.aHz f0.o).2.1) c2.o).mono ?_);rintro e e2 ⟨q1,rfl,B0,hb⟩;refine ⟨_,rfl,?_⟩;have n_:=Zb (Za (Kd.bYz (xd_ d0.o) (Kd.dez B0) hb)) (Zb (Za (Kd.ckz (xd_ f0.o) hb)) (Zb (Za (Kd.ckz (xd_ i0.o) hb)) (Zb (Za (Kd.bXz (Kd.b2z (ok':=fun k_=>some k_≠(.slice M0 l0.length O0:Value).ownBlock/\some k_≠(.slice Q0 K0.length P0:Value).ownBlock/\some k_≠(s1:Value).ownBlock/\k_≠h0/\k_≠e0/\k_≠g0) (Kd.S_N (Kd.bDz B0)) (fun k_ C0=>⟨(Kd.fresh' (Kd.N_lt (xd_ d0.o)) k_ C0.2.1),(Kd.fresh' (Kd.R_lt (xd_ f0.o)) k_ C0.2.1),(Kd.fresh' (Kd.R_lt (xd_ i0.o)) k_ C0.2.1),(Kd.freshB (g:=h0) (o:= .cells #[.int .u8 t0, .int .u8 r0, .int .u8 y0] 42 (0,0)) bk_ k_ C0.2.1),(Kd.freshB (g:=e0) (o:= .cells #[.int .u8 w0, .int .u8 v0, .int .u8 u0, .int .u8 q0] 43 (0,0)) bk_ k_ C0.2.1),(Kd.freshB (g:=g0) (o:= .cells #[.int .i64 p0, .int .i64 n0, .int .i64 j0] 23 (0,0)) bk_ k_ C0.2.1)⟩)) (adz bl_))) (Zb (bb_ a0 hb) (Zb (bb_ b0 hb) (Zb (bb_ c0 hb) (hs_ HB hb)))))));clear d0 f0 i0 a0 b0 c0 HB;obtain ⟨d0,f0,i0,o0,a0,b0,c0,HB⟩:=n_;clear hb B0;obtain ⟨_,_,_,_,_,_⟩:=bc3_ c0.o;obtain ⟨b1,m1,y1⟩:=Kd.aQz i0.o;subst y1)|((with_reducible refine aaz (f:=27) rfl ?_);refine gl_ (some 63) func27 #[.agg #[.int .i64 p0, .int .i64 n0, .int .i64 j0], .slice M0 l0.length O0, .slice b1 N0.length m1] ?_;(with_reducible refine (awz.calls k p0 n0 j0 _ _ l0 _ _ N0 U0 F0 _ (xd_ (Kd.bpz d0.o).2.2) ((Kd.bpz d0.o).2.1) (xd_ (Kd.aHz i0.o).2.2) ((Kd.aHz i0.o).2.1) T1.o).mono ?_);rintro e l2 ⟨X1,rfl,B0,hb⟩;refine ⟨_,rfl,?_⟩;have n_:=Zb (Za (Kd.bYz (xd_ d0.o) (Kd.dez B0) hb)) (Zb (Za (Kd.ckz (xd_ f0.o) hb)) (Zb (Za (Kd.ckz (xd_ i0.o) hb)) (Zb (Za (Kd.bYz (xd_ o0.o) (Kd.dez B0) hb)) (Zb (Za (Kd.bXz (Kd.b2z (ok':=fun k_=>some k_≠(.slice M0 l0.length O0:Value).ownBlock/\some k_≠(.slice Q0 K0.length P0:Value).ownBlock/\some k_≠(.slice b1 N0.length m1:Value).ownBlock/\some k_≠(q1:Value).ownBlock/\k_≠h0/\k_≠e0/\k_≠g0) (Kd.S_N (Kd.bDz B0)) (fun k_ C0=>⟨(Kd.fresh' (Kd.N_lt (xd_ d0.o)) k_ C0.2.1),(Kd.fresh' (Kd.R_lt (xd_ f0.o)) k_ C0.2.1),(Kd.fresh' (Kd.R_lt (xd_ i0.o)) k_ C0.2.1),(Kd.fresh' (Kd.N_lt (xd_ o0.o)) k_ C0.2.1),(Kd.freshB (g:=h0) (o:= .cells #[.int .u8 t0, .int .u8 r0, .int .u8 y0] 42 (0,0)) bk_ k_ C0.2.1),(Kd.freshB (g:=e0) (o:= .cells #[.int .u8 w0, .int .u8 v0, .int .u8 u0, .int .u8 q0] 43 (0,0)) bk_ k_ C0.2.1),(Kd.freshB (g:=g0) (o:= .cells #[.int .i64 p0, .int .i64 n0, .int .i64 j0] 23 (0,0)) bk_ k_ C0.2.1)⟩)) (adz bl_))) (Zb (bb_ a0 hb) (Zb (bb_ b0 hb) (Zb (bb_ c0 hb) (hs_ HB hb))))))));clear d0 f0 i0 o0 a0 b0 c0 HB;obtain ⟨d0,f0,i0,o0,L0,a0,b0,c0,HB⟩:=n_;clear hb B0;obtain ⟨Z1,U1,u1⟩:=Kd.czz o0.o;subst u1;obtain ⟨Q1,O1,t1⟩:=Kd.czz L0.o;subst t1)|(go_at_call 21;(with_reducible refine (bfz.calls k _ _ e1 _ _ U0 true _ (xd_ (Kd.bpz o0.o).2.2) ((Kd.bpz o0.o).2.1) (xd_ (Kd.bpz L0.o).2.2) ((Kd.bpz L0.o).2.1) W1.o).mono ?_);rintro e w' ⟨rfl,⟨nd,rfl⟩⟩;obtain ⟨_,_,_,_,_,_⟩:=bc3_ c0.o))
   go_ret;exact ⟨er_,bl_⟩
  ·replace n1:=Zr n1;subst n1;rw [Yb (show¬(false=true) by decide)] at H;exact Yf ((Zn H).trans Y0.o) (by simp)
def xorB (a b:List Int):List Int:=List.zipWith (fun x y=>Go.bits .xor .u8 x y) a b
def sumB (L:Nat) (rows:List (List Int)):List Int:=rows.foldl xorB (List.replicate L 0)
theorem dkz (a b:List Int) (h:a.length=b.length):(xorB a b).length=b.length:=by simp [xorB];omega
theorem fCz {L:Nat} : ∀(rows:List (List Int)) (acc:List Int),acc.length=L->(∀r,r∈rows->r.length=L)->(rows.foldl xorB acc).length=L
 | [],acc,h,_=>h
 |r::rs,acc,h,hr=>by
  have h1:=hr r (List.mem_cons_self ..);exact fCz rs (xorB acc r) (by rw [dkz _ _ (h.trans h1.symm)];exact h1) (fun q hq=>hr q (List.mem_cons_of_mem _ hq))
theorem sumB_length {L:Nat} (rows:List (List Int)) (h: ∀r,r∈rows->r.length=L):(sumB L rows).length=L:=fCz rows _ (by simp) h
theorem ddz {j:Nat} (h:j<=1000000000):wrap64 ((j:Int)+1)=((j+1:Nat):Int):=by unfold wrap64;omega
theorem sum_l1 (rows : List (List Int)) (n : Int) (i : Nat) (acc row : List Int) (r : List Int × Int) (K : Nat) (hl : acc.length = row.length) (hL : row.length <= 100000000) (hi : i <= 100000000)
  (h:aLz.l0 K (xorB acc row) rows n ((i+1:Nat):Int)=some r):
  ∀(d j:Nat),j+d=row.length->aLz.l1 (K+d+1) ((xorB acc row).take j++acc.drop j) rows n (i:Int) row (row.length:Int) (j:Int)=some r
 |0,j,hj=>by
  obtain rfl:j=row.length:=by omega
  unfold aLz.l1;rw [Yb (by omega),ddz (by omega),List.take_of_length_le (by rw [dkz _ _ hl];exact Zv _),List.drop_of_length_le (by omega),List.append_nil];exact h
 |d+1,j,hj=>by
  have hlx:=dkz _ _ hl;have hjl:j<row.length:=by omega
  have hlen:((xorB acc row).take j++acc.drop j).length=row.length:=by simp [hlx];omega
  unfold aLz.l1;rw [Ya (by omega),Ya (by omega),Ya (by omega),Ya (by omega),ddz (by omega)]
  have hset:((xorB acc row).take j++acc.drop j).set (j:Int).toNat (Go.bits .xor .u8 (rd ((xorB acc row).take j++acc.drop j) (j:Int)) (rd row (j:Int)))=(xorB acc row).take (j+1)++acc.drop (j+1):=by
   have e1:rd ((xorB acc row).take j++acc.drop j) (j:Int)=acc.getD j 0:=by
    unfold rd;rw [Zu,Zm,List.getElem?_append_right (by simp [hlx];omega),List.getElem?_drop];simp [hlx,Nat.min_eq_left (Nat.le_of_lt hjl)]
   have e2:rd row (j:Int)=row.getD j 0:=by unfold rd;rw [Zu]
   rw [e1,e2,Zu];apply List.ext_getElem?
   intro q;have hja:j<acc.length:=by omega
   have hx:(xorB acc row)[j]?=some (Go.bits .xor .u8 (acc.getD j 0) (row.getD j 0)):=by
    unfold xorB;rw [List.getElem?_zipWith,Zf hja,Zf hjl];simp [Zm,Zf hja,Zf hjl]
   rw [List.getElem?_set];by_cases hq:j=q
   ·subst hq;rw [Ya rfl,Ya (by omega),List.getElem?_append_left (by simp [hlx];omega),List.getElem?_take,Ya (by omega),hx]
   ·rw [Yb hq];by_cases hlt:q<j
    ·rw [List.getElem?_append_left (by simp [hlx];omega),List.getElem?_append_left (by simp [hlx];omega),List.getElem?_take,List.getElem?_take,Ya hlt,Ya (by omega)]
    ·rw [List.getElem?_append_right (by simp [hlx];omega),List.getElem?_append_right (by simp [hlx];omega),List.getElem?_drop,List.getElem?_drop];congr 1
     simp [hlx,Nat.min_eq_left (Nat.le_of_lt hjl),Nat.min_eq_left (show j+1<=row.length from hjl)];omega
  rw [hset];have:=sum_l1 rows n i acc row r K hl hL hi h d (j+1) (by omega);rw [show K+(d+1)=K+d+1 by omega];exact this
theorem sum_l0 (rows:List (List Int)) (L:Nat) (hL:L<=100000000) (hn:rows.length<=1000) (hr: ∀r,r∈rows->r.length=L):
  ∀(m i:Nat) (acc:List Int),i+m=rows.length->acc.length=L-> ∃K,aLz.l0 K acc rows (rows.length:Int) (i:Int)=some ((rows.drop i).foldl xorB acc,0)
 |0,i,acc,hi,ha=>by
  refine ⟨1,?_⟩;unfold aLz.l0;rw [Yb (by omega),List.drop_of_length_le (by omega)];rfl
 |m+1,i,acc,hi,ha=>by
  obtain ⟨row,hrow⟩: ∃r,rows[i]?=some r:=⟨_,Zf (by omega)⟩;have hrl:=hr row (Zo hrow)
  have hd:rows.drop i=row::rows.drop (i+1):=by
   obtain ⟨h1,h2⟩:=Zk hrow;rw [List.drop_eq_getElem_cons h1,h2]
  obtain ⟨K,hK⟩:=sum_l0 rows L hL hn hr m (i+1) (xorB acc row) (by omega) (by rw [dkz _ _ (by omega)];exact hrl);have h1:=sum_l1 rows (rows.length:Int) i acc row _ K (by omega) (by omega) (by omega) hK row.length 0 (by omega);refine ⟨K+row.length+1+1,?_⟩;have hrd:rd_L1 rows (i:Int)=row:=by unfold rd_L1;rw [Zu,Zm,hrow];rfl
  unfold aLz.l0;rw [Ya (by omega),Ya (by omega),Ya (by omega),hrd,Ya (by omega),hd]
  simpa using h1
theorem sum_ev (rows:List (List Int)) (L:Nat) (hL:L<=100000000) (hn:rows.length<=1000) (h0:0<rows.length) (hr: ∀r,r∈rows->r.length=L):Ev (fun k=>aLz.f k rows) (sumB L rows,0):=by
 obtain ⟨row,hrow⟩: ∃r,rows[0]?=some r:=⟨_,Zf h0⟩;have hrl:=hr row (Zo hrow);have hrd:rd_L1 rows 0=row:=by unfold rd_L1;rw [show (0:Int).toNat=0 from rfl,Zm,hrow];rfl
 obtain ⟨K,hK⟩:=sum_l0 rows L hL hn hr rows.length 0 (List.replicate L 0) (by omega) (by simp);refine Ev.of (fun k=>aLz.mono _ k) (k:=K) ?_;unfold aLz.f;rw [Ya (by omega),hrd,Ya (by omega),Ya (by omega),hrl,Zu]
 simpa [sumB] using hK
def e0z.f (a0_0 a0_1:Int) (a0_2:Int):Option (Int×Int):=(bnz.f a0_0).bind fun bt112=>(if bt112.2.2.2.1=106 then (some (8,0)) else (if bt112.2.2.2.1=105 then (some (16,0)) else (if bt112.2.2.2.1=98 then (some (1,4)) else (some (1,0)))))
def bAz.j0:Nat->Int->Bool->Int->Int->Int->Option (Int×Int)
 |0,_,_,_,_,_=>none
 |k+1,x1,x9,x112000,x112001,x112002=>if x9=true then (some (0,1)) else (if x1>4096 then (some (0,11)) else ((e0z.f x112000 x112001 x112002).bind fun bt113=>(if (wrap64 (bt113.1*x112001))=0 then (none) else (some (wrap64 (bt113.1*(mx (wrap64 (Int.tdiv (wrap64 ((wrap64 ((wrap64 (x1+bt113.2))+(wrap64 (bt113.1*x112001)))) - 1)) (wrap64 (bt113.1*x112001)))) 1)),0)))))
def bAz.f (k:Nat) (a0_0 a0_1 a0_2:Int) (a1:Int):Option (Int×Int):=(avz.f a0_0 a0_1 a0_2).bind fun t112=>(if t112=true then (bAz.j0 k a1 (decide (a1<0)) a0_0 a0_1 a0_2) else (bAz.j0 k a1 true a0_0 a0_1 a0_2))
theorem bAz.a6z: ∀k,(∀y0 y1 y2 y3 y4,LeO (bAz.j0 k y0 y1 y2 y3 y4) (bAz.j0 (k+1) y0 y1 y2 y3 y4))
 |0=>fun _ _ _ _ _ r h=>by simp [bAz.j0] at h
 |k+1=>by
  have a0:=bAz.a6z k
  ·intro y0 y1 y2 y3 y4;unfold bAz.j0
   repeat' with_reducible first|apply a0|apply Yg|apply Yh|apply Yi|refine Yj ?_ fun _=>?_
theorem bAz.mono: ∀a0 a1 a2 a3 k,LeO (bAz.f k a0 a1 a2 a3) (bAz.f (k+1) a0 a1 a2 a3):=by
 intro a0 a1 a2 a3 k;have b0:=bAz.a6z k;unfold bAz.f
 repeat' with_reducible first|apply b0|apply Yg|apply Yh|apply Yi|refine Yj ?_ fun _=>?_
end Go.Proofs.Xc
end
section
namespace Go.Proofs.Xc
open Go.RowKit Go.Proofs.Pw Go.Proofs.Pl Go.Proofs.Pm Tryz
attribute [local go_sem] a7z a8z bgz bhz aVz aWz a9z baz
attribute [local go_sem] Oper.semAt_some
def four4 (n:Int):List Int:= [n / 256 / 256 / 256 % 256,n / 256 / 256 % 256,n / 256 % 256,n % 256]
def laidL (ahead:Nat) (b:List Int):List Int:=(four4 (b.length:Int)).drop (4 - ahead)++b
def KpC (ex:Nat->Prop) (W W':World):Prop:=W.heap.size<=W'.heap.size/\ ∀(k:Nat) (o:Obj),W.heap[k]?=some o->o.isCells=true-> ¬ex k->W'.heap[k]?=some o
theorem KpC.trans {ex:Nat->Prop} {A B C:World} (h:KpC ex A B) (k:KpC ex B C):KpC ex A C:=⟨Zt h.1 k.1,fun i o hi ho he=>k.2 i o (h.2 i o hi ho he) ho he⟩
theorem KpC.refl (ex:Nat->Prop) (A:World):KpC ex A A:=⟨Zv _,fun _ _ h _ _=>h⟩
theorem KpC.of_below {ex:Nat->Prop} {A B:World} (h:Below A.heap.size A B):KpC ex A B:=⟨h.size,fun k o hk _ _=>(h.block k (aUz hk)).trans hk⟩
def b0z.fill (size:Nat):List Int->Nat->List (List Int)->Option (List (List Int))
 | [],_,rows=>some rows
 |c::cs,i,rows=>if i / size<rows.length then b0z.fill size cs (i+1) (rows.set (i / size) ((rows.getD (i / size) []).set (i % size) c)) else none
def b0z.f (k:Nat) (a0_0 a0_1 a0_2:Int) (l1:List Int):Option (List (List Int)×Int):=
 (bAz.f k a0_0 a0_1 a0_2 (l1.length:Int)).bind fun s=>if s.2=0 then (if 1<=a0_1 then (if a0_1<=1000 then (if 1<=s.1 then (if s.1<=100000 then (if l1.length<=100000 then
  (e0z.f a0_0 a0_1 a0_2).bind fun u=>(if u.2=0\/u.2=4 then (b0z.fill s.1.toNat (laidL u.2.toNat l1) 0 (List.replicate a0_1.toNat (List.replicate s.1.toNat 0))).bind fun r=>some (r,0) else none)
  else none) else none) else none) else none) else none) else some ([],s.2)
end Go.Proofs.Xc
end
section
namespace Go.Proofs.Xc
open Go.RowKit Go.Proofs.Pw Go.Proofs.Pl Go.Proofs.Pm Tryz
attribute [local go_sem] a7z a8z bgz bhz aVz aWz a9z baz
def codec_Encode.f (k:Nat) (a0_0 a0_1 a0_2:Int) (l1:List Int):Option ((List (List Int))×Int):=(b0z.f k a0_0 a0_1 a0_2 l1).bind fun bt116=>(if bt116.2=0 then ((ayz.f k a0_0 a0_1 a0_2 bt116.1).bind fun bt120=>(if bt116.1.length+bt120.1.length<5864062014805 then (some ((bt116.1++bt120.1),bt120.2)) else (none))) else (some (([] :List (List Int)),bt116.2)))
theorem byteF_len (wb a:Int):(byteF wb a).length=wN wb:=by unfold byteF wN;split<;>rfl
theorem bytesF_len (wb:Int): ∀l:List Int,(bytesF wb l).length=l.length*wN wb
 | [] =>by simp [bytesF]
 |a::l=>by
  have h1:=bytesF_len wb l;have h3:bytesF wb (a::l)=byteF wb a++bytesF wb l:=by unfold bytesF;rw [List.flatMap_cons]
  rw [h3,List.length_append,byteF_len,h1,List.length_cons,Nat.add_mul];omega
theorem mulB_len (wb c:Int) (b:List Int) (h:b.length % wN wb=0):(mulB wb c b).length=b.length:=by
 unfold mulB;rw [bytesF_len,List.length_map,frz];exact Nat.div_mul_cancel (Nat.dvd_of_mod_eq_zero h)
def dotV (L:Nat) (wb:Int) (c:List Int) (rows:List (List Int)):List Int:=sumB L (List.zipWith (mulB wb) c rows)
theorem zip_len {wb:Int} {L:Nat} (hd:L % wN wb=0) {c:List Int} {rows:List (List Int)} (hr: ∀r,r∈rows->r.length=L): ∀r,r∈List.zipWith (mulB wb) c rows->r.length=L:=by
 intro r h;obtain ⟨i,hi,rfl⟩:=List.mem_iff_getElem.1 h;rw [List.getElem_zipWith];rw [mulB_len _ _ _ (by rw [hr _ (List.getElem_mem ..)];exact hd)];exact hr _ (List.getElem_mem ..)
theorem dotV_len {wb:Int} {L:Nat} (hd:L % wN wb=0) {c:List Int} {rows:List (List Int)} (hr: ∀r,r∈rows->r.length=L):(dotV L wb c rows).length=L:=sumB_length _ (zip_len hd hr)
theorem dot_ev (wb:Int) (L:Nat) (hL:L<=1000000) (hd:L % wN wb=0) (c:List Int) (rows:List (List Int)) (h0:0<rows.length) (hc:c.length=rows.length) (hn:rows.length<=1000) (hr: ∀r,r∈rows->r.length=L):Ev (fun k=>dotB k wb c rows) (dotV L wb c rows,0):=by
 have hall:rows.all (evB wb)=true:=by
  rw [List.all_eq_true];intro r h;unfold evB;rw [hr r h,hd];rfl
 refine Ev.congr (f:=fun k=>aLz.f k (List.zipWith (mulB wb) c rows)) (fun k=>by unfold dotB;rw [Ya hall]) ?_;exact sum_ev _ L (by omega) (by simp;omega) (by simp;omega) (zip_len hd hr)
theorem parl_ev (wb:Int) (L:Nat) (hL:L<=1000000) (hd:L % wN wb=0) (data:List (List Int)) (h0:0<data.length) (hn:data.length<=1000) (hr: ∀r,r∈data->r.length=L):
  ∀(rs acc:List (List Int)),(∀r,r∈rs->r.length=data.length)->Ev (fun k=>ayz.l k wb data rs acc) (acc++rs.map (fun c=>dotV L wb c data),0)
 | [],acc,_=>by
  simp only [ayz.l,List.map_nil,List.append_nil];exact Ev.now _
 |row::rs,acc,hc=>by
  have h1:=dot_ev wb L hL hd row data h0 (hc row (List.mem_cons_self ..)) hn hr;have h2:=parl_ev wb L hL hd data h0 hn hr rs (acc++ [dotV L wb row data]) (fun r h=>hc r (List.mem_cons_of_mem _ h));simp only [ayz.l];refine Ev.bind h1 ?_;rw [List.append_assoc] at h2
  simpa using h2
def parV (L:Nat) (p:Int) (K M:Nat) (data:List (List Int)):List (List Int):=(parM p K M).map fun c=>dotV L (pbits p) c data
theorem par_ev (p:Int) (K M L:Nat) (data:List (List Int)) (a0:avz.f p (K:Int) (M:Int)=some true) (hK:data.length=K) (hL:L<=1000000) (hd:L % wN (pbits p)=0) (hr: ∀r,r∈data->r.length=L):
  Ev (fun k=>ayz.f k p (K:Int) (M:Int) data) (parV L p K M data,0):=by
 obtain ⟨p1,p2,k1,k2,m1,m2⟩:=bZz a0;have hgd:=cZz p K M (by omega) (by omega) (by omega) (by omega)
 have hs:ayz.small data=true:=by
  simp only [ayz.small,Bool.and_eq_true,decide_eq_true_eq,List.all_eq_true];exact ⟨by omega,fun r h=>by rw [hr r h];exact hL⟩
 have h1:=parl_ev (pbits p) L hL hd data (by omega) (by omega) hr (parM p K M) [] (fun r h=>by rw [(hgd.1 r h).1,hK]);refine Ev.congr (fun k=> ?_) h1;unfold ayz.f;rw [a0,Zl,Ya rfl,Ya (by omega),Ya hs,Zu,Zu]
end Go.Proofs.Xc
end
