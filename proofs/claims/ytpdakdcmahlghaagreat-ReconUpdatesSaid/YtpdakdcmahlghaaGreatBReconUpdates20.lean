-- Joined texts of this work (wip/tools/bundle.py).
import Derived.Lib.SlBytesConst
import Derived.Test.YtpdakdcmahlghaaGreatBReconUpdates19
set_option maxHeartbeats 8000000
set_option maxRecDepth 100000
set_option linter.unusedVariables false
set_option linter.unusedSimpArgs false
section
namespace Go.Proofs.Xc
open Go.RowKit Go.Proofs.Pw Go.Proofs.Pl Go.Proofs.Pm
attribute [local go_sem] a7z a8z bjz bkz aZz a0z a9z baz
attribute [local go_sem] Oper.semAt_some
def setAll (T:List (Nat×List Int)) (a:List (List Int)):List (List Int):=T.foldl (fun a x=>a.set x.1 x.2) a
theorem setAll_snoc (T:List (Nat×List Int)) (x:Nat×List Int) (a:List (List Int)):setAll (T++ [x]) a=(setAll T a).set x.1 x.2:=by simp [setAll]
def bWz.g (l:List (List Int)) (hv:List Bool) (d q:List (List Int)) (e:Int):Option (List (List Int)×Int):=
 if e=0 then (if (d++q).length=l.length then (if hv.length=l.length then (if 1<=d.length/\1<=q.length/\l.length<=1000 then (if aLz.small l=true then some (setAll (thereF 0 l hv) (d++q),0) else none) else none) else none) else none) else none
def bWz.f (k:Nat) (a0_0 a0_1 a0_2:Int) (l1:List (List Int)) (l2:List Bool):Option (List (List Int)×Int):=
 (a3z.f k a0_0 a0_1 a0_2 l1 l2).bind fun d=>if d.2=0 then ((aLz.f k a0_0 a0_1 a0_2 d.1).bind fun q=>bWz.g l1 l2 d.1 q.1 q.2) else some ([],d.2)
theorem bWz.bad (k : Nat) (p K M : Int) (A1 A2 : Option Addr) (c1 c2 : Nat) (l : List (List Int)) (hv : List Bool) (d1 : List (List Int)) (d2 : Int) (W : World)
  (hd:a3z.f k p K M l hv=some (d1,d2)) (h0:d2≠0) (hr1:Kd.C (dM 5 .u8) W A1 l.length l) (hc1:l.length<=c1) (hr2:Kd.C Kd.bool W A2 hv.length hv) (hc2:hv.length<=c2):
  Calls Tryz.prog 29 #[.agg #[.int .i64 p, .int .i64 K, .int .i64 M], .slice A1 l.length c1, .slice A2 hv.length c2] W fun e w'=>e= .returned (.tuple #[.slice none 0 0, .int .i64 d2])/\Below W.heap.size W w':=by
 have HDA:=Za (fun (w1:World) (hB:Below W.heap.size W w1)=>a3z.calls k p K M A1 c1 l A2 c2 hv d1 d2 w1 (Kd.azz hr1 hB) hc1 (Kd.azz hr2 hB) hc2 hd);generalize l.length=N at HDA|-;generalize hv.length=N2 at HDA|-;have hu:=Tryz.underlying23;have hb:(d2 !=0)=true:=by simpa using h0
 have HB:=Za (alz (Zw W.heap.size W) (.cells #[.int .i64 p, .int .i64 K, .int .i64 M] 23));clear hd hr1 hc1 hr2 hc2 h0;refine (callsIn_wide (n:=8)).1 (callsIn_of_wp_marks Tryz.func29 rfl trivial (wpIn_wide.2 ?_) rfl);simp only [Tryz.ntmps29,List.size_toArray,List.length_cons,List.length_nil,Nat.reduceAdd,Nat.reduceSub,Array.replicate_succ,Array.replicate_zero,List.push_toArray,List.append_toArray,List.nil_append,List.cons_append]
 go_wp2_with fail
 generalize W.alloc (.cells #[.int .i64 p, .int .i64 K, .int .i64 M] 23)=w0 at HB|-;refine (HDA.out w0 HB.out).mono ?_;rintro e w1 ⟨v,rfl,s1,hB1⟩;obtain ⟨Av,cv,rfl⟩:=Kd.aRz (Kd.S_R s1);have HB1:=Za (HB.out.trans (hB1.mono HB.out.size));generalize d1.length=nd at s1|-;clear hB1 HB HDA s1;go_wp2;refine cAz [] w1 (by simp) (fun D' hD'=>by simp at hD') (fun w' hkp hsz hos htp hou=> ?_);exact ⟨_,results_tmp2 rfl _ _ _,rfl,hos.trans HB1.out.os,htp.trans HB1.out.tape,hou.trans HB1.out.output,by rw [hsz];exact HB1.out.size,fun q hq=>(hkp q (Zp hq HB1.out.size) (by simp)).trans (HB1.out.block q hq)⟩
theorem bWz.go (k : Nat) (p K M : Int) (N0 : Nat) (A1 A2 : Option Addr) (c1 c2 : Nat) (l : List (List Int)) (hv : List Bool) (d1 q1 : List (List Int)) (W : World)
  (hd:a3z.f k p K M l hv=some (d1,0)) (hq:aLz.f k p K M d1=some (q1,0)) (hN:l.length=N0) (hN2:hv.length=N0) (hlen:d1.length+q1.length=N0) (hd0:1<=d1.length) (hq0:1<=q1.length) (hn1000:N0<=1000) (hsm: ∀r,r∈l->r.length<=1000000)
  (hr1:Kd.C (dM 5 .u8) W A1 l.length l) (hc1:l.length<=c1) (hr2:Kd.C Kd.bool W A2 hv.length hv) (hc2:hv.length<=c2):
  Calls Tryz.prog 29 #[.agg #[.int .i64 p, .int .i64 K, .int .i64 M], .slice A1 N0 c1, .slice A2 N0 c2] W fun e w'=> ∃v,e= .returned (.tuple #[v, .int .i64 0])/\Kd.S (dM 5 .u8) 34 w' W.heap.size (fun _=>True) v (setAll (thereF 0 l hv) (d1++q1))/\Below W.heap.size W w':=by
 have HDA:=Za (fun (w1:World) (hB:Below W.heap.size W w1)=>a3z.calls k p K M A1 c1 l A2 c2 hv d1 0 w1 (Kd.azz hr1 hB) hc1 (Kd.azz hr2 hB) hc2 hd);rw [hN,hN2] at HDA;have HPA:=Za (fun (A:Option Addr) (c:Nat) (w1:World) (hC:Kd.C (dM 5 .u8) w1 A d1.length d1) (hc:d1.length<=c)=>aLz.calls k p K M A c d1 q1 0 w1 hC hc hq);have HR1:=Za hr1;have HR2:=Za hr2;have HN:=Za hN;have HN2:=Za hN2;have HSM:=Za hsm;obtain ⟨nd,hnd⟩: ∃m,d1.length=m:=⟨_,rfl⟩;obtain ⟨nq,hnq⟩: ∃m,q1.length=m:=⟨_,rfl⟩;have HND:=Za hnd;have HNQ:=Za hnq;have HLEN:=Za (show nd+nq=N0 by omega);have hu:=Tryz.underlying23;have HB:=Za (alz (Zw W.heap.size W) (.cells #[.int .i64 p, .int .i64 K, .int .i64 M] 23));have HX:=Za (b7z W (.cells #[.int .i64 p, .int .i64 K, .int .i64 M] 23));have nd1:1<=nd:=by omega
 have nq1:1<=nq:=by omega
 rw [hnd] at HPA;clear hd hq hN hN2 hlen hr1 hc1 hr2 hc2 hsm hd0 hq0 hnd hnq;refine (callsIn_wide (n:=8)).1 (callsIn_of_wp_marks Tryz.func29 rfl trivial (wpIn_wide.2 ?_) rfl);simp only [Tryz.ntmps29,List.size_toArray,List.length_cons,List.length_nil,Nat.reduceAdd,Nat.reduceSub,Array.replicate_succ,Array.replicate_zero,List.push_toArray,List.append_toArray,List.nil_append,List.cons_append]
 go_wp2_with fail
 generalize W.alloc (.cells #[.int .i64 p, .int .i64 K, .int .i64 M] 23)=w0 at HB HX|-;refine (HDA.out w0 HB.out).mono ?_;rintro e w1 ⟨v1,rfl,s1,hB1⟩;obtain ⟨Ad,cd,rfl,hcd,hCd⟩:=Kd.c6z (Kd.S_R s1);have HB1:=Za (HB.out.trans (hB1.mono HB.out.size));have HX1:=Za (awz HX.out hB1);rw [HND.out] at hCd hcd|-;have HPC:=Za (HPA.out Ad cd w1 hCd hcd);have S1:=Za s1;have HBW0:=Za (show W.heap.size<=w0.heap.size from HB.out.size);have q0:w1.cell? ⟨W.heap.size,0,none⟩=some (.int .i64 p):=(aaz HX1.out 0).trans rfl;have q1':w1.cell? ⟨W.heap.size,1,none⟩=some (.int .i64 K):=(aaz HX1.out 1).trans rfl;have q2:w1.cell? ⟨W.heap.size,2,none⟩=some (.int .i64 M):=(aaz HX1.out 2).trans rfl;clear hB1 HX HB HDA HPA s1 hCd hcd
 go_wp2_with fail
 refine HPC.out.mono ?_;rintro e w2 ⟨v2,rfl,s2,hB2⟩;obtain ⟨g2,cq,rfl,hg2,hg2l, -⟩:=Kd.N_form (Kd.S_N s2) (by rw [HNQ.out];exact nq1);have HB2:=Za (HB1.out.trans (hB2.mono HB1.out.size));have hs12:=Kd.cJz (Kd.dvz (Kd.cGz (Kd.bFz S1.out) (ok':=fun k=>k<w1.heap.size) (fun k hk=>hk.2.2.1)) hB2) HBW0.out;have hs22:=Kd.cGz (Kd.bFz s2) (ok':=fun k=>w1.heap.size<=k) (fun k hk=>hk.2.1);rw [HNQ.out] at hs22|-;rw [HND.out] at hs12;have HS1:=Za hs12;have HS2:=Za hs22;have HBL:=Za (show nd+nq<=1000 by have:=HLEN.out;omega);have HLP:=Za (show 0<(d1++q1).length by rw [List.length_append,HND.out];omega);have HLL:=Za (show (d1++q1).length=N0 by rw [List.length_append,HND.out,HNQ.out];exact HLEN.out);have HW1:=Za (show W.heap.size<=w1.heap.size from HB1.out.size);clear s2 hB2 hs12 hs22 HPC q0 q1' q2 S1
 go_wp2_with ((with_reducible refine anz (b:= .append) (xs:= #[.tmp 30, .tmp 31]) rfl ?_);go_must (at_builtin;refine S_append_rows (dM 5 .u8) (w0:=W) W.heap.size w1.heap.size rfl (.tmp 30) (.tmp 31) 24 34 (.slice none 0 0) 24 rfl Tryz.underlying24 kr_ rfl (by decide) (by decide) _ d1 q1 g2 nq cq (fun k'=>k'<w1.heap.size) (fun k'=>w1.heap.size<=k') rfl rfl HS1.out HS2.out (fun k' h1 h2=>by omega) HW1.out HB2.out HB2.out.size ?aL ?_;(case aL=>have:=HBL.out;have:=HND.out;omega));intro v3 w3 ho3 hb3 hg3 hat3;obtain ⟨o3,cap3,rfl, -, -, -⟩:=Kd.N_form (Kd.S_N ho3) HLP.out;rw [HLL.out] at ho3|-;have HO3:=Za ho3;have HB3:=Za hb3;clear ho3 hb3 hg3 hat3)
 have hth:=there.calls A1 A2 N0 c1 N0 c2
 go_wp2_with (first|(go_at_call 58;refine (hth _).mono ?_;rintro e w' ⟨rfl,rfl⟩))
 clear hth;obtain ⟨T,hT⟩: ∃T,thereF 0 l hv=T:=⟨_,rfl⟩;have HTD:=Za hT
 have HTM:=Za (show∀x,x∈T->x.1<N0/\x.2.length<=1000000 from fun x hx=>by
  rw [<-hT] at hx;have h1:=thereF_lt 0 l hv x hx;rw [HN.out] at h1
  exact ⟨by omega,HSM.out _ (thereF_mem 0 l hv x hx)⟩)
 clear hT;have hX8:(((w3.alloc (.cells #[.slice (some ⟨o3,0,none⟩) N0 cap3] 24)).alloc (.cells #[.slice A1 N0 c1] 24)).alloc (.cells #[.slice A2 N0 c2] 38)).heap[w3.heap.size]?=some (.cells #[.slice (some ⟨o3,0,none⟩) N0 cap3] 24 (0,0)):=aEz (aEz (b7z w3 _) _) _;have hXs:(((w3.alloc (.cells #[.slice (some ⟨o3,0,none⟩) N0 cap3] 24)).alloc (.cells #[.slice A1 N0 c1] 24)).alloc (.cells #[.slice A2 N0 c2] 38)).heap[w3.heap.size+1]?=some (.cells #[.slice A1 N0 c1] 24 (0,0)):=aEz (bBz _ _ _ (by simp)) _;have hXh:(((w3.alloc (.cells #[.slice (some ⟨o3,0,none⟩) N0 cap3] 24)).alloc (.cells #[.slice A1 N0 c1] 24)).alloc (.cells #[.slice A2 N0 c2] 38)).heap[w3.heap.size+1+1]?=some (.cells #[.slice A2 N0 c2] 38 (0,0)):=bBz _ _ _ (by simp);have hB4:Below w3.heap.size w3 (((w3.alloc (.cells #[.slice (some ⟨o3,0,none⟩) N0 cap3] 24)).alloc (.cells #[.slice A1 N0 c1] 24)).alloc (.cells #[.slice A2 N0 c2] 38)):=cLz (cLz (alz (Zw _ _) _) (alz (Zw _ _) _)) (alz (Zw _ _) _)
 have hsz:(((w3.alloc (.cells #[.slice (some ⟨o3,0,none⟩) N0 cap3] 24)).alloc (.cells #[.slice A1 N0 c1] 24)).alloc (.cells #[.slice A2 N0 c2] 38)).heap.size=w3.heap.size+1+1+1:=by simp
 generalize ((w3.alloc (.cells #[.slice (some ⟨o3,0,none⟩) N0 cap3] 24)).alloc (.cells #[.slice A1 N0 c1] 24)).alloc (.cells #[.slice A2 N0 c2] 38)=w4 at hX8 hXs hXh hB4 hsz|-;obtain ⟨b,hb⟩: ∃b,b=w3.heap.size:=⟨_,rfl⟩;have hB4':=HB3.out.trans (hB4.mono HB3.out.size);have ho3:o3<b:=hb▸Kd.S_lt HO3.out o3 (by simp [Value.ownBlock]);have ho3b:W.heap.size<=o3:=Kd.ecz HO3.out o3 (by simp [Value.ownBlock]);have HO4:=Za (Kd.dvz HO3.out hB4);rw [<-hb] at hX8 hXs hXh hsz|-;have HX8:=Za hX8;have HXS:=Za hXs;have HXH:=Za hXh;have HB4:=Za hB4';have HSZ:=Za hsz;have HFS:=Za (show Kd.F (dM 5 .u8) w4 (fun k=> ¬(k=o3)) A1 l.length l from Kd.bZz (Kd.cmz (C_F (Kd.dSz _ (Kd.dhz _)) HR1.out) (fun k hk _=>hB4'.block k hk)) (fun k hk h=>by have:k<W.heap.size:=hk;omega));have HFH:=Za (show Kd.F Kd.bool w4 (fun k=> ¬(k=o3)) A2 hv.length hv from Kd.bZz (Kd.cmz (C_F Kd.heap_bool HR2.out) (fun k hk _=>hB4'.block k hk)) (fun k hk h=>by have:k<W.heap.size:=hk;omega))
 clear hX8 hXs hXh hsz hB4 hB4' hb HO3 HB3;refine (wpIn_wide (n:=8)).1 ?_
 refine eTz (α:=ThX) rfl (by omega) (gf:=93) (lb:= #[.pointer (some ⟨b+1,0,none⟩), .pointer (some ⟨b+1+1,0,none⟩)]) rfl trivial (enters_of Tryz.func93 kr_ rfl)
  (there_seq (b+1) (b+1+1) w4.heap.size N0 c1 c2 (fun k=>k=o3) A1 A2 l hv w4 w4 HFS.out HFH.out (Zv _) (Zv _) ⟨Zv _,fun _ _ _=>rfl⟩ HN.out HN2.out (by omega) (by have:=HLEN.out;omega) HXS.out HXH.out ⟨by have:=HSZ.out;omega,by omega⟩ ⟨by have:=HSZ.out;omega,by omega⟩) KpX.trans ?hKb (Zw _ _) (fun _=>rfl)
  (fun pre Wx=>Kd.S (dM 5 .u8) 34 Wx W.heap.size (fun _=>True) (.slice (some ⟨o3,0,none⟩) N0 cap3) (setAll (pre.map thK) (d1++q1))/\pre.map thK=T.take pre.length/\RX w4.heap.size o3 o3 o3 w4 Wx)
  ?hI ?hHd ?h0 (fun x=> { tmps:= #[.agg #[.int .i64 p, .int .i64 K, .int .i64 M], .slice A1 N0 c1, .slice A2 N0 c2, .pointer (some ⟨W.heap.size,0,none⟩),undef,undef, .slice none 0 0, .int .i64 0, .slice Ad nd cd, .int .i64 0, .slice (some ⟨g2,0,none⟩) nq cq, .pointer (some ⟨b,0,none⟩), .int .i64 (x.1:Int), .slice x.2.1 x.2.2.2.length x.2.2.1, .tuple #[.slice Ad nd cd, .int .i64 0], .agg #[.int .i64 p, .int .i64 K, .int .i64 M], .slice A1 N0 c1, .slice A2 N0 c2, .tuple #[.slice Ad nd cd, .int .i64 0], .slice Ad nd cd, .int .i64 0, .int .i64 0, .bool false,undef, .tuple #[.slice (some ⟨g2,0,none⟩) nq cq, .int .i64 0], .agg #[.int .i64 p, .int .i64 K, .int .i64 M], .slice Ad nd cd, .tuple #[.slice (some ⟨g2,0,none⟩) nq cq, .int .i64 0], .slice (some ⟨g2,0,none⟩) nq cq, .int .i64 0, .slice Ad nd cd, .slice (some ⟨g2,0,none⟩) nq cq, .slice (some ⟨o3,0,none⟩) N0 cap3, .slice A1 N0 c1, .slice A2 N0 c2, .func (.func 93) #[] #[.pointer (some ⟨b+1,0,none⟩), .pointer (some ⟨b+1+1,0,none⟩)], .int .i64 (x.1:Int), .slice x.2.1 x.2.2.2.length x.2.2.1,undef,undef,undef,undef,undef,undef,undef],defers:= [] }) ?assign ?body ?done
 case hKb=>exact fun Wx l o o' hl ho _=>⟨(grownBy_putObj' Wx l o').size,fun k hk _=>World.putObj_heap_other (by omega)⟩
 case hI=>
  rintro s X Y r ⟨h1,h2,h6⟩ hg hr;have hr': ∀q,r=some q-> ∃o:Obj,X.heap[q]?=some o/\o.isCells=false:=fun q e=>(hr q e).2
  refine ⟨S_keepK h1 (fun q oo hq ho=>grownBy_keeps_cells hg hr' hq ho),h2,⟨hg.os.trans h6.os,hg.tape.trans h6.tape,hg.output.trans h6.output,Zt h6.size hg.size,fun k hk q1 q2 q3=>(hg.block k (Zp hk h6.size) (fun e=>by have:=(hr k e.symm).1;omega)).trans (h6.block k hk q1 q2 q3),fun k o ho hn=>(hg.block k (Zp (aPz ho) h6.size) (fun e=>by have:=(hr k e.symm).1;have:=aPz ho;omega)).trans (h6.walks k o ho hn)⟩⟩
 case hHd=>
  rintro m x - X Y r ⟨h0,h1,h2⟩ hg hr;exact ⟨h0,h1,Kd.cmz h2 (fun k hk hlt=>hg.block k hlt (fun e=>by have:=(hr k e.symm).1;have:=hk.2;omega))⟩
 case h0=>exact ⟨HO4.out,rfl,RX.refl _ _ _ _ _⟩
 case assign=>
  intro l' x Wx K' hK
  gi_wp2
  exact hK
 case body=>
  rintro l' pre ⟨i,A',c',bb⟩ Wx ⟨h1,h2,h6⟩ ⟨hx0,hx1,hx2⟩ hlen;dsimp only at hx0 hx1 hx2|-;rw [HTD.out] at hx0 hlen;have hxm:=HTM.out _ (Zo hx0);obtain ⟨nb,hnb⟩: ∃nb,bb.length=nb:=⟨_,rfl⟩;have HNB:=Za hnb;have hi:i<N0:=hxm.1
  have HTK:=Za (show (pre++ [((i,A',c',bb):ThX)]).map thK=T.take (pre++ [((i,A',c',bb):ThX)]).length by
   rw [List.map_append,h2,List.length_append,List.length_singleton,List.take_add_one,hx0]
   rfl)
  have HSA:=Za (show setAll ((pre++ [((i,A',c',bb):ThX)]).map thK) (d1++q1)=(setAll (pre.map thK) (d1++q1)).set i bb by
   rw [List.map_append]
   exact setAll_snoc _ _ _)
  have hcl:=clone_b.calls A' c' bb Wx.drew (Kd.b4z (Kd.F_now hx2)) hxm.2;rw [hnb] at hcl|-;have HCL:=Za hcl;have hc8:Wx.drew.cell? ⟨b,0,none⟩=some (.slice (some ⟨o3,0,none⟩) N0 cap3):=(aaz (h6.blk HX8.out (by have:=HSZ.out;omega) (by omega) (by omega) (by omega)) 0).trans rfl;have HH1:=Za h1;have HH6:=Za h6;have HSX:=Za (show w4.heap.size<=Wx.heap.size from h6.size);have i1:(0:Int)<=(i:Int):=by omega
  have i2:(i:Int)<(N0:Int):=by omega
  have hmo:Tryz.prog.follows .mixedOrders=true:=by kernel_rfl
  have HFIN := Za (show ∀ (w5 : World) (ua : Option Addr) (uc : Nat), Below Wx.heap.size Wx w5 -> (Kd.int .u8).R 5 w5 Wx.heap.size (fun _ => True) (.slice ua nb uc) bb ->
    ∃v0,w5.cell? ⟨o3,i,none⟩=some v0/\w5.frozen? ⟨o3,i,none⟩=false/\KeepsFrom w4.heap.size Wx (w5.setCell ⟨o3,i,none⟩ (.slice ua nb uc))/\KpX w4.heap.size (fun k=>k=o3) Wx (w5.setCell ⟨o3,i,none⟩ (.slice ua nb uc))/\(fun pre Wx=>Kd.S (dM 5 .u8) 34 Wx W.heap.size (fun _=>True) (.slice (some ⟨o3,0,none⟩) N0 cap3) (setAll (pre.map thK) (d1++q1))/\pre.map thK=T.take pre.length/\RX w4.heap.size o3 o3 o3 w4 Wx) (pre++ [((i,A',c',bb):ThX)]) (w5.setCell ⟨o3,i,none⟩ (.slice ua nb uc)) by
   intro w5 ua uc hb5 hu;obtain ⟨⟨v0,p1⟩,p2,p3⟩:=S_putrow HH1.out (Zt HB4.out.size HSX.out) hb5 hu i hi;have hsc: ∀k,k≠o3->(w5.setCell ⟨o3,i,none⟩ (.slice ua nb uc)).heap[k]?=w5.heap[k]?:=fun k hk=>Below.heap_setCell w5 ⟨o3,i,none⟩ (.slice ua nb uc) k hk
   obtain ⟨ocs,hocs⟩:=Kd.bNz HH1.out o3 (by simp [Value.ownBlock])
   have hRX:RX w4.heap.size o3 o3 o3 Wx (w5.setCell ⟨o3,i,none⟩ (.slice ua nb uc)):=⟨hb5.os,hb5.tape,hb5.output,by simpa using hb5.size,fun k hk e1 _ _=>(hsc k e1).trans (hb5.block k (Zp hk HSX.out)),fun k o ho hn=>(hsc k (fun e=>by
    subst e
    rw [hocs] at ho;cases ho;cases hn)).trans ((hb5.block k (aPz ho)).trans ho)⟩
   exact ⟨v0,p1,p2,⟨hRX.size,fun k o _ ho hn=>hRX.walks k o ho hn⟩,⟨hRX.size,fun k hk he=>hRX.block k hk he he he⟩,by rw [HSA.out];exact p3,HTK.out,HH6.out.trans hRX⟩)
  clear h1 h2 h6 hx0 hx1 hx2 hlen hxm hcl hnb
  gi_wp2
  refine startIn_ (m:=6) (S:=fun w'=>w'.cell? ⟨b,0,none⟩=some (.slice (some ⟨o3,0,none⟩) N0 cap3)) (ds:= [5]) (bA 6 0) kr_ rfl rfl kr_ (by rintro ⟨_,_,h⟩;exact h) (hc8) (fun hHeld=> ?_);refine pu_ 1 39 2 ?_;refine pu_ 2 40 6 ?_;refine tk_ 0 38 7 hHeld ?_;refine one_ (i:=3) (N:=some 41) (bA 6 15) rfl rfl kr_ (by decide) (fun K hK=> ?_);refine goes_ Tryz.func65 kr_ rfl #[.slice A' nb c'] (by rfl) rfl rfl am_ ?_
  with_reducible refine (HCL.out).mono ?_
  rintro e w5 ⟨u,rfl,hu,hb5⟩;refine ⟨_,rfl,?_⟩;obtain ⟨ua,uc,rfl⟩:=Kd.aRz hu;rw [HNB.out] at hu|-;have hb5:=Below.trans (crz (Zw Wx.heap.size Wx)) hb5;obtain ⟨v0,p1,p2,p3⟩:=HFIN.out w5 ua uc hb5 hu;have P3:=Za p3;have hc8':=aUz (show Below Wx.heap.size Wx w5 from hb5) hc8;clear p3 hu hb5;refine hK.out _ _ (hc8') (fun hHeld=> ?_);clear hK K;refine norm_ (a':= ?_) ?_ ?_;rotate_left
  ·show Act.put _ (some 41) _=_;simp only [Act.put,Zg,Zh,Zi,i64_w,i32_w];rfl
  refine pu_ 4 42 31 ?_;refine last_ (i:=5) (N:=none) (bA 6 63) rfl rfl kr_ (by decide) (fun K hK=> ?_);refine skip_ (w1:= ?_) (by rfl) rfl ?_ ?_;rotate_left
  ·go_simp;rfl
  refine hK.out _ _ ?_;clear hK K;refine done_ kr_ ?_;exact P3.out
 case done=>
  rintro D xs Wx hD hxs ⟨h1,h2,h6⟩ hDd;rw [hxs] at h1;have HFN:=Za h1;have hB:=HB4.out.trans (show Below W.heap.size w4 Wx from ⟨h6.os,h6.tape,h6.output,h6.size,fun k hk=>h6.block k (by have:=HSZ.out;omega) (by omega) (by omega) (by omega)⟩);have HBX:=Za hB;have hc8:Wx.cell? ⟨b,0,none⟩=some (.slice (some ⟨o3,0,none⟩) N0 cap3):=(aaz (h6.blk HX8.out (by have:=HSZ.out;omega) (by omega) (by omega) (by omega)) 0).trans rfl;have HDD:=Za hDd;have HDN:=Za hD;clear h1 h2 h6 hDd hD hB hxs;simp only [Exit.inBlock,Exit.then];go_wp2;refine cAz [D] Wx (by simp) (fun D' hD'=>by rw [List.mem_singleton] at hD';rw [hD'];exact HDD.out) (fun w' hkp hsz hos htp hou=> ?_)
  have hcc: ∀(q:Nat) (oo:Obj),Wx.heap[q]?=some oo->oo.isCells=true->w'.heap[q]?=Wx.heap[q]?:=fun q oo hq ho=>hkp q (aPz hq) (fun hm=>by
   rw [List.mem_singleton] at hm;subst hm
   rw [HDD.out] at hq;cases hq;cases ho)
  exact ⟨_,results_tmp2 rfl _ _ _,_,rfl,S_keepK HFN.out hcc,hos.trans HBX.out.os,htp.trans HBX.out.tape,hou.trans HBX.out.output,by rw [hsz];exact HBX.out.size,fun q hq=>(hkp q (Zp hq HBX.out.size) (fun hm=>by
   rw [List.mem_singleton] at hm;have:=HDN.out;have:=HB4.out.size
   omega)).trans (HBX.out.block q hq)⟩
theorem bWz.calls (k : Nat) (a0_0 a0_1 a0_2 : Int) (A1 : Option Addr) (c1 : Nat) (l1 : List (List Int)) (A2 : Option Addr) (c2 : Nat) (l2 : List Bool) (r1 : List (List Int)) (r2 : Int) (w : World) (hr1 : Kd.C (Kd.slice 5 (Kd.int .u8)) w A1 l1.length l1) (hc1 : l1.length <= c1) (hr2 : Kd.C Kd.bool w A2 l2.length l2) (hc2 : l2.length <= c2) (h : bWz.f k a0_0 a0_1 a0_2 l1 l2 = some (r1, r2)) :
  Calls Tryz.prog 29 #[.agg #[.int .i64 a0_0, .int .i64 a0_1, .int .i64 a0_2], .slice A1 l1.length c1, .slice A2 l2.length c2] w fun e w'=> ∃v0_:Value,e= .returned (.tuple #[v0_, .int .i64 r2])/\Kd.S (Kd.slice 5 (Kd.int .u8)) 34 w' w.heap.size (fun _=>True) v0_ r1/\Below w.heap.size w w':=by
 unfold bWz.f at h;obtain ⟨⟨d1,d2⟩,hd,h⟩:=Option.bind_eq_some_iff.1 h;dsimp only at h;by_cases h0:d2=0
 ·subst h0;rw [Ya rfl] at h;obtain ⟨⟨q1,q2⟩,hq,h⟩:=Option.bind_eq_some_iff.1 h;unfold bWz.g at h;dsimp only at h
  have cut: ∀ {p:Prop} [Decidable p] {a:Option (List (List Int)×Int)},(if p then a else none)=some (r1,r2)->p/\a=some (r1,r2):=by
   intro p _ a hh;by_cases hp:p
   ·rw [Ya hp] at hh;exact ⟨hp,hh⟩
   ·rw [Yb hp] at hh;cases hh
  obtain ⟨e1,h⟩:=cut h;obtain ⟨e2,h⟩:=cut h;obtain ⟨e3,h⟩:=cut h;obtain ⟨e4,h⟩:=cut h;obtain ⟨e5,h⟩:=cut h;simp only [Zx,Zy] at h;obtain ⟨rfl,rfl⟩:=h;subst e1
  have hsm: ∀r,r∈l1->r.length<=1000000:=by
   simp only [aLz.small,Bool.and_eq_true,decide_eq_true_eq,List.all_eq_true] at e5;exact e5.2
  have:=bWz.go k a0_0 a0_1 a0_2 l1.length A1 A2 c1 c2 l1 l2 d1 q1 w hd hq rfl e3 (by rw [<-List.length_append];exact e2) e4.1 e4.2.1 e4.2.2 hsm hr1 hc1 hr2 hc2;rw [<-e3] at this|-;rw [e3] at this|-;exact this
 ·rw [Yb h0] at h;simp only [Zx,Zy] at h;obtain ⟨rfl,rfl⟩:=h;refine (bWz.bad k a0_0 a0_1 a0_2 A1 A2 c1 c2 l1 l2 d1 d2 w hd h0 hr1 hc1 hr2 hc2).mono ?_;rintro e w' ⟨rfl,hB⟩;exact ⟨_,rfl,Kd.S_nil _ _ _ _ _,hB⟩
end Go.Proofs.Xc
end
section
namespace Go.Proofs.Xc
open Go.RowKit Go.Proofs.Pw Go.Proofs.Pl Go.Proofs.Pm
attribute [local go_sem] a7z a8z bjz bkz aZz a0z a9z baz
def cPz.f (_:Nat):Option (Bool):=some true
theorem awake12.one:bWz.f 40 1 2 1 [[], [97,98], [99,100]] [false,true,true] =some ([[2,6], [97,98], [99,100]],0):=by kernel_rfl
theorem awake12.two:bWz.f 40 1 2 1 [[], [], [99,100]] [false,false,true] =some ([],5):=by kernel_rfl
theorem C_cells {W : World} {g : Nat} {vs : List Value} {xs : List (List Int)} (h : W.heap[g]? = some (.cells vs.toArray 34 (0, 0))) (hl : xs.length <= 1000) (hk : ∀ (j : Nat) (x : List Int), xs[j]? = some x -> ∃ (A : Option Addr) (c : Nat), vs[j]? = some (.slice A x.length c) /\ x.length <= c /\ Kd.C (Kd.int .u8) W A x.length x) :
  Kd.C (Kd.slice 5 (Kd.int .u8)) W (some ⟨g,0,none⟩) xs.length xs:=by
 refine ⟨rfl,by omega,fun _=>⟨_,rfl,fun j p hp=> ?_⟩⟩;obtain ⟨A,c,hv,hc,hC⟩:=hk j p hp;refine ⟨[.slice A p.length c],rfl,⟨A,c,rfl,hc,hC⟩,fun i u hu=> ?_⟩
 cases i with
 |succ i=>simp at hu
 |zero=>
  obtain rfl:Value.slice A p.length c=u:=by simpa using hu
  rw [show (⟨g,0,none⟩:Addr).add (j*(Kd.slice 5 (Kd.int .u8)).sz+0)=⟨g,j,none⟩ from by
   show (⟨g,0,none⟩:Addr).add (j*1+0)=_;unfold Addr.add
   split<;>simp_all,aaz h j]
  simpa using hv
theorem C_bools {W:World} {g:Nat} {t:TypeId} {xs:List Bool} (h:W.heap[g]?=some (.cells (xs.map Value.bool).toArray t (0,0))) (hl:xs.length<=1000):Kd.C Kd.bool W (some ⟨g,0,none⟩) xs.length xs:=by
 refine ⟨rfl,by omega,fun _=>⟨_,rfl,fun j p hp=>⟨[.bool p],rfl,rfl,fun i u hu=> ?_⟩⟩⟩
 cases i with
 |succ i=>simp at hu
 |zero=>
  obtain rfl:Value.bool p=u:=by simpa using hu
  rw [show (⟨g,0,none⟩:Addr).add (j*Kd.bool.sz+0)=⟨g,j,none⟩ from by
   show (⟨g,0,none⟩:Addr).add (j*1+0)=_;unfold Addr.add
   split<;>simp_all,aaz h j]
  simp [hp]
theorem C_nil8 (W:World):Kd.C (Kd.int .u8) W none 0 [] :=⟨rfl,by omega,fun h=>Yf h (by omega)⟩
theorem cPz.calls (k : Nat) (r : Bool) (w : World) (h : cPz.f k = some r) :
  Calls Tryz.prog 26 #[] w fun e w'=>e= .returned (.bool r)/\Below w.heap.size w w':=by
  obtain rfl:true=r:=by injection h
  clear h;have kc:=fun (w:World) (C:Array Value) (n c:Nat)=>Lib.run_convert_bytes_const (P:=Tryz.prog) w 34 5 C n c Tryz.underlying34 Tryz.underlying5
  have kd : ∀ (W : World) (o : Obj) (C : Array Value) (n c : Nat), Sem.run Tryz.prog (convert 34 34 (.slice (some ⟨W.heap.size + 1, 0, none⟩) n c)) ((W.alloc o).alloc (.cells C 5)) = Result.ok (.slice (some ⟨W.heap.size + 1, 0, none⟩) n c) ((W.alloc o).alloc (.cells C 5 (C.size, C.size + 1))) := fun W o C n c => by
    have h:=kc (W.alloc o) C n c;rw [World.size_alloc] at h;exact h
  have ke : ∀ (W : World) (o o' : Obj) (C : Array Value) (n c : Nat), Sem.run Tryz.prog (convert 34 34 (.slice (some ⟨W.heap.size + 1 + 1, 0, none⟩) n c)) (((W.alloc o).alloc o').alloc (.cells C 5)) = Result.ok (.slice (some ⟨W.heap.size + 1 + 1, 0, none⟩) n c) (((W.alloc o).alloc o').alloc (.cells C 5 (C.size, C.size + 1))) := fun W o o' C n c => by
    have h:=kc ((W.alloc o).alloc o') C n c;rw [World.size_alloc,World.size_alloc] at h;exact h
  have HR1:=Za (fun (W:World) (A B:Option Addr) (hr:Kd.C (Kd.slice 5 (Kd.int .u8)) W A 3 [[], [97,98], [99,100]]) (hb:Kd.C Kd.bool W B 3 [false,true,true])=>bWz.calls 40 1 2 1 A 3 [[], [97,98], [99,100]] B 3 [false,true,true] [[2,6], [97,98], [99,100]] 0 W hr (by decide) hb (by decide) awake12.one);have HR2:=Za (fun (W:World) (A B:Option Addr) (hr:Kd.C (Kd.slice 5 (Kd.int .u8)) W A 3 [[], [], [99,100]]) (hb:Kd.C Kd.bool W B 3 [false,false,true])=>bWz.calls 40 1 2 1 A 3 [[], [], [99,100]] B 3 [false,false,true] [] 5 W hr (by decide) hb (by decide) awake12.two);have hu:=Tryz.underlying23;go_enter Tryz.func26,Tryz.ntmps26
  go_wp2_with fail
  have hX0:(((((w.alloc (.cells #[.int .i64 1, .int .i64 2, .int .i64 1] 23)).alloc (.cells #[.int .u8 97, .int .u8 98] 5 (2,3))).alloc (.cells #[.int .u8 99, .int .u8 100] 5 (2,3))).alloc (.cells #[.slice none 0 0, .slice (some ⟨w.heap.size+1,0,none⟩) 2 2, .slice (some ⟨w.heap.size+1+1,0,none⟩) 2 2] 34)).alloc (.cells #[.bool false, .bool true, .bool true] 4)).heap[w.heap.size]?=some (.cells #[.int .i64 1, .int .i64 2, .int .i64 1] 23):=aEz (aEz (aEz (aEz (b7z w _) _) _) _) _;have hX1:(((((w.alloc (.cells #[.int .i64 1, .int .i64 2, .int .i64 1] 23)).alloc (.cells #[.int .u8 97, .int .u8 98] 5 (2,3))).alloc (.cells #[.int .u8 99, .int .u8 100] 5 (2,3))).alloc (.cells #[.slice none 0 0, .slice (some ⟨w.heap.size+1,0,none⟩) 2 2, .slice (some ⟨w.heap.size+1+1,0,none⟩) 2 2] 34)).alloc (.cells #[.bool false, .bool true, .bool true] 4)).heap[w.heap.size+1]?=some (.cells #[.int .u8 97, .int .u8 98] 5 (2,3)):=aEz (aEz (aEz (bBz _ _ _ (by simp)) _) _) _
  have hX2:(((((w.alloc (.cells #[.int .i64 1, .int .i64 2, .int .i64 1] 23)).alloc (.cells #[.int .u8 97, .int .u8 98] 5 (2,3))).alloc (.cells #[.int .u8 99, .int .u8 100] 5 (2,3))).alloc (.cells #[.slice none 0 0, .slice (some ⟨w.heap.size+1,0,none⟩) 2 2, .slice (some ⟨w.heap.size+1+1,0,none⟩) 2 2] 34)).alloc (.cells #[.bool false, .bool true, .bool true] 4)).heap[w.heap.size+1+1]?=some (.cells #[.int .u8 99, .int .u8 100] 5 (2,3)):=aEz (aEz (bBz _ _ _ (by simp)) _) _;have hX3:(((((w.alloc (.cells #[.int .i64 1, .int .i64 2, .int .i64 1] 23)).alloc (.cells #[.int .u8 97, .int .u8 98] 5 (2,3))).alloc (.cells #[.int .u8 99, .int .u8 100] 5 (2,3))).alloc (.cells #[.slice none 0 0, .slice (some ⟨w.heap.size+1,0,none⟩) 2 2, .slice (some ⟨w.heap.size+1+1,0,none⟩) 2 2] 34)).alloc (.cells #[.bool false, .bool true, .bool true] 4)).heap[w.heap.size+1+1+1]?=some (.cells #[.slice none 0 0, .slice (some ⟨w.heap.size+1,0,none⟩) 2 2, .slice (some ⟨w.heap.size+1+1,0,none⟩) 2 2] 34):=aEz (bBz _ _ _ (by simp)) _
  have hX4:(((((w.alloc (.cells #[.int .i64 1, .int .i64 2, .int .i64 1] 23)).alloc (.cells #[.int .u8 97, .int .u8 98] 5 (2,3))).alloc (.cells #[.int .u8 99, .int .u8 100] 5 (2,3))).alloc (.cells #[.slice none 0 0, .slice (some ⟨w.heap.size+1,0,none⟩) 2 2, .slice (some ⟨w.heap.size+1+1,0,none⟩) 2 2] 34)).alloc (.cells #[.bool false, .bool true, .bool true] 4)).heap[w.heap.size+1+1+1+1]?=some (.cells #[.bool false, .bool true, .bool true] 4):=bBz _ _ _ (by simp);have hB:Below w.heap.size w (((((w.alloc (.cells #[.int .i64 1, .int .i64 2, .int .i64 1] 23)).alloc (.cells #[.int .u8 97, .int .u8 98] 5 (2,3))).alloc (.cells #[.int .u8 99, .int .u8 100] 5 (2,3))).alloc (.cells #[.slice none 0 0, .slice (some ⟨w.heap.size+1,0,none⟩) 2 2, .slice (some ⟨w.heap.size+1+1,0,none⟩) 2 2] 34)).alloc (.cells #[.bool false, .bool true, .bool true] 4)):=alz (alz (alz (alz (alz (Zw _ _) _) _) _) _) _;generalize ((((w.alloc (.cells #[.int .i64 1, .int .i64 2, .int .i64 1] 23)).alloc (.cells #[.int .u8 97, .int .u8 98] 5 (2,3))).alloc (.cells #[.int .u8 99, .int .u8 100] 5 (2,3))).alloc (.cells #[.slice none 0 0, .slice (some ⟨w.heap.size+1,0,none⟩) 2 2, .slice (some ⟨w.heap.size+1+1,0,none⟩) 2 2] 34)).alloc (.cells #[.bool false, .bool true, .bool true] 4)=w0 at hX0 hX1 hX2 hX3 hX4 hB|-
  have hcc := C_cells (vs := [.slice none 0 0, .slice (some ⟨w.heap.size + 1, 0, none⟩) 2 2, .slice (some ⟨w.heap.size + 1 + 1, 0, none⟩) 2 2]) (xs := [[], [97, 98], [99, 100]]) hX3 (by decide) (fun j x hx => by
    match j,hx with
    | 0, hx => obtain rfl : [] = x := by simpa using hx
               exact ⟨none,0,rfl,Zv _,C_nil8 _⟩
    | 1, hx => obtain rfl : [97, 98] = x := by simpa using hx
               exact ⟨_,2,rfl,Zv _,C_numsF (xs:= [97,98]) (fr:=(2,3)) hX1 (by decide)⟩
    | 2, hx => obtain rfl : [99, 100] = x := by simpa using hx
               exact ⟨_,2,rfl,Zv _,C_numsF (xs:= [99,100]) (fr:=(2,3)) hX2 (by decide)⟩
    |j+3,hx=>simp at hx)
  refine (HR1.out w0 _ _ hcc (C_bools (xs:= [false,true,true]) hX4 (by decide))).mono ?_;rintro e w1 ⟨v,rfl,s1,b1⟩;have HB1:=Za (hB.trans (b1.mono hB.size));have HX1:=Za (awz hX0 b1);obtain ⟨gg,c,rfl, -, -, -⟩:=Kd.N_form (Kd.S_N s1) (by decide);obtain ⟨-,hc,hC⟩:=Kd.bnz (Kd.S_N s1);have HC:=Za hC;obtain ⟨ad,A2,c2,he,e2, -,C2⟩:=b5z hC 0 [2,6] rfl;obtain rfl:=Zn he;rw [cXz] at e2;have HE2:=Za e2;have HC2:=Za C2;have hl3:([[2,6], [97,98], [99,100]] :List (List Int)).length=3:=rfl;rw [hl3] at HC hc|-;have hx0:w1.cell? ⟨w.heap.size,0,none⟩=some (.int .i64 1):=(aaz HX1.out 0).trans rfl;have hx1:w1.cell? ⟨w.heap.size,1,none⟩=some (.int .i64 2):=(aaz HX1.out 1).trans rfl;have hx2:w1.cell? ⟨w.heap.size,2,none⟩=some (.int .i64 1):=(aaz HX1.out 2).trans rfl;clear hX0 hX1 hX2 hX3 hX4 hB hcc s1 b1 hC he C2 e2 HR1 hl3
  go_wp2_with fail
  have hY1:(((w1.alloc (.cells #[.int .u8 99, .int .u8 100] 5 (2,3))).alloc (.cells #[.slice none 0 0, .slice none 0 0, .slice (some ⟨w1.heap.size,0,none⟩) 2 2] 34)).alloc (.cells #[.bool false, .bool false, .bool true] 4)).heap[w1.heap.size]?=some (.cells #[.int .u8 99, .int .u8 100] 5 (2,3)):=aEz (aEz (b7z w1 _) _) _;have hY2:(((w1.alloc (.cells #[.int .u8 99, .int .u8 100] 5 (2,3))).alloc (.cells #[.slice none 0 0, .slice none 0 0, .slice (some ⟨w1.heap.size,0,none⟩) 2 2] 34)).alloc (.cells #[.bool false, .bool false, .bool true] 4)).heap[w1.heap.size+1]?=some (.cells #[.slice none 0 0, .slice none 0 0, .slice (some ⟨w1.heap.size,0,none⟩) 2 2] 34):=aEz (bBz _ _ _ (by simp)) _;have hY3:(((w1.alloc (.cells #[.int .u8 99, .int .u8 100] 5 (2,3))).alloc (.cells #[.slice none 0 0, .slice none 0 0, .slice (some ⟨w1.heap.size,0,none⟩) 2 2] 34)).alloc (.cells #[.bool false, .bool false, .bool true] 4)).heap[w1.heap.size+1+1]?=some (.cells #[.bool false, .bool false, .bool true] 4):=bBz _ _ _ (by simp)
  have hB3:Below w1.heap.size w1 (((w1.alloc (.cells #[.int .u8 99, .int .u8 100] 5 (2,3))).alloc (.cells #[.slice none 0 0, .slice none 0 0, .slice (some ⟨w1.heap.size,0,none⟩) 2 2] 34)).alloc (.cells #[.bool false, .bool false, .bool true] 4)):=alz (alz (alz (Zw _ _) _) _) _;generalize ((w1.alloc (.cells #[.int .u8 99, .int .u8 100] 5 (2,3))).alloc (.cells #[.slice none 0 0, .slice none 0 0, .slice (some ⟨w1.heap.size,0,none⟩) 2 2] 34)).alloc (.cells #[.bool false, .bool false, .bool true] 4)=w3 at hY1 hY2 hY3 hB3|-
  have hcc := C_cells (vs := [.slice none 0 0, .slice none 0 0, .slice (some ⟨w1.heap.size, 0, none⟩) 2 2]) (xs := [[], [], [99, 100]]) hY2 (by decide) (fun j x hx => by
    match j,hx with
    | 0, hx => obtain rfl : [] = x := by simpa using hx
               exact ⟨none,0,rfl,Zv _,C_nil8 _⟩
    | 1, hx => obtain rfl : [] = x := by simpa using hx
               exact ⟨none,0,rfl,Zv _,C_nil8 _⟩
    | 2, hx => obtain rfl : [99, 100] = x := by simpa using hx
               exact ⟨_,2,rfl,Zv _,C_numsF (xs:= [99,100]) (fr:=(2,3)) hY1 (by decide)⟩
    |j+3,hx=>simp at hx)
  refine (HR2.out w3 _ _ hcc (C_bools (xs:= [false,false,true]) hY3 (by decide))).mono ?_;rintro e w4 ⟨v4,rfl,s4,b4⟩;obtain ⟨A4,c4,rfl⟩:=Kd.aRz (Kd.S_R s4);have hB4:=hB3.trans (b4.mono hB3.size);have HB4:=Za (HB1.out.trans (hB4.mono HB1.out.size));have hst:=Kd.C_string (P:=Tryz.prog) (c:=c2) Tryz.underlying34 Tryz.underlying5 Tryz.underlying9 (Kd.azz HC2.out hB4);have hss:(strOfNums [2,6] :ByteArray)=⟨#[2,6]⟩:=by kernel_rfl
  rw [hss] at hst;have e2:w4.cell? ⟨gg,0,none⟩=some (.slice A2 ([2,6] :List Int).length c2):=aUz hB4 HE2.out;have hl2:([2,6] :List Int).length=2:=rfl;rw [hl2] at hst e2;clear hY1 hY2 hY3 hB3 hcc s4 b4 hB4 HR2 kc kd ke hx0 hx1 hx2 hss hl2;go_wp2;go_ret;exact ⟨rfl,HB4.out⟩
def bdz.l0:Nat->List (List Int)->List (List Int)->Int->Option (Bool)
 |0,_,_,_=>none
 |k+1,x0,x1,x5=>if x5<(x0.length:Int) then (if 0<=x5 then (if x5<(x1.length:Int) then (if (strOfNums (x0.getD x5.toNat [])).toList=(strOfNums (x1.getD x5.toNat [])).toList then (bdz.l0 k x0 x1 (wrap64 (x5+1))) else (some false)) else (none)) else (none)) else (some true)
def bdz.f (k:Nat) (l0:List (List Int)) (l1:List (List Int)):Option (Bool):=if (l0.length:Int)=(l1.length:Int) then (bdz.l0 k l0 l1 0) else (some false)
theorem bdz.calls (k : Nat) (A0 : Option Addr) (c0 : Nat) (l0 : List (List Int)) (A1 : Option Addr) (c1 : Nat) (l1 : List (List Int)) (r : Bool) (w : World) (hr0 : Kd.C (Kd.slice 5 (Kd.int .u8)) w A0 l0.length l0) (hc0 : l0.length <= c0) (hr1 : Kd.C (Kd.slice 5 (Kd.int .u8)) w A1 l1.length l1) (hc1 : l1.length <= c1) (h : bdz.f k l0 l1 = some r) :
  Calls Tryz.prog 21 #[.slice A0 l0.length c0, .slice A1 l1.length c1] w fun e w'=>e= .returned (.bool r)/\Drawn0 w w':=by
 have HR0:=Za hr0;have HR1:=Za hr1;unfold bdz.f at h;by_cases hl:(l0.length:Int)=(l1.length:Int)
 case neg=>
  rw [Yb hl] at h;obtain rfl:=Zn h;generalize l0.length=n0 at hl|-;generalize l1.length=n1 at hl|-;have b1:((n0:Int) !=(n1:Int))=true:=bne_iff_ne.2 hl;clear hl h hr0 hr1 hc0 hc1;go_enter Tryz.func21,Tryz.ntmps21;go_wp2;go_ret;exact ⟨rfl,Drawn0.refl _⟩
 rw [Ya hl] at h;obtain ⟨n,hn⟩: ∃n,l0.length=n:=⟨_,rfl⟩;have hn1:l1.length=n:=by omega
 have HN0:=Za hn;have HN1:=Za hn1;have HH:=Za h;have HM:=Za (show n<=9223372036854775807 from hn▸hr0.2.1);rw [hn] at HR0|-;rw [hn1] at HR1|-;have b1:((n:Int) !=(n:Int))=false:=by simp
 clear hl h hr0 hr1 hc0 hc1 hn hn1;go_enter Tryz.func21,Tryz.ntmps21;go_wp2
 go_loopw [5] (fun iv wr=> ∃i kk m:Nat,i<=n/\iv= .int .i64 (i:Int)/\wr=w.drewN m/\Aside0 (bdz.l0 kk l0 l1 (i:Int)=some r)) (fun iv _=>n - (intOf iv).toNat)
 case atStart=>exact ⟨0,k,0,Nat.zero_le _,rfl,rfl,HH⟩
 clear HH b1;obtain ⟨i,kk,m,hi,rfl,hwm,HH⟩:=hrel;have HWM:=Za hwm;have HRA:=Za (show Kd.C (Kd.slice 5 (Kd.int .u8)) wr A0 n l0 by rw [hwm];exact Kd.buz HR0.out m);have HRB:=Za (show Kd.C (Kd.slice 5 (Kd.int .u8)) wr A1 n l1 by rw [hwm];exact Kd.buz HR1.out m);clear hwm;obtain ⟨wq,rfl⟩: ∃wq,wq=wr:=⟨_,rfl⟩;have h:=HH.out;rcases kk with _|kk
 ·exact Yf h (by simp [bdz.l0])
 unfold bdz.l0 at h;by_cases hlt:i<n
 ·obtain ⟨x,hx⟩: ∃x,l0[i]?=some x:=⟨_,Zf (by have:=HN0.out;omega)⟩;obtain ⟨y,hy⟩: ∃y,l1[i]?=some y:=⟨_,Zf (by have:=HN1.out;omega)⟩;rw [Ya (by rw [HN0.out];omega),Ya (by omega),Ya (by rw [HN1.out];omega),Zu,Zm,hx,Zm,hy] at h;obtain ⟨ad,A',ca,rfl,hcx, -,hX⟩:=b5z (HN0.out.symm▸HRA.out) i x hx;obtain ⟨bd,B',cb,rfl,hcy, -,hY⟩:=b5z (HN1.out.symm▸HRB.out) i y hy;have hcv1:=Kd.C_string (P:=Tryz.prog) (A:=A') (c:=ca) Tryz.underlying34 Tryz.underlying5 Tryz.underlying9 (Kd.buz hX 1);have hcv2:=Kd.C_string (P:=Tryz.prog) (A:=B') (c:=cb) Tryz.underlying34 Tryz.underlying5 Tryz.underlying9 (Kd.buz hY 1);simp only [Option.getD_some] at h;generalize x.length=xl at hcx hcv1;generalize y.length=yl at hcy hcv2;have i1:(0:Int)<=(i:Int):=by omega
  have i2:(i:Int)<(n:Int):=by omega
  have hcv1':=hcv1;have hcv2':=hcv2;rw [show wq.drewN 1=wq.drew from rfl] at hcv1' hcv2';clear hx hy hX hY hcv1 hcv2;have HI2:=Za (show wrap64 ((i:Int)+1)=((i+1:Nat):Int) by have:=HM.out;unfold wrap64;omega);by_cases heq:(strOfNums x).toList=(strOfNums y).toList
  ·rw [Ya heq] at h;have e1:((strOfNums x).toList==(strOfNums y).toList)=true:=beq_iff_eq.2 heq;have e2:((strOfNums x).toList !=(strOfNums y).toList)=false:=bne_eq_false_iff_eq.2 heq;rw [HI2.out] at h;have HH2:=Za h;clear heq h;generalize strOfNums x=sx at hcv1' e1 e2;generalize strOfNums y=sy at hcv2' e1 e2
   go_wp2_with fail
   refine clz (n:=11) (S:=fun w'=>w'.cell? (ad.add i)=some (.slice A' xl ca)/\w'.cell? (bd.add i)=some (.slice B' yl cb)) (ds:= []) (bA 11 0) kr_ rfl rfl ⟨hcx,hcy⟩ (fun hHeld=> ?_);refine pu_ 0 17 1 ?_;refine pu_ 1 18 3 ?_;refine pu_ 2 19 7 ?_;refine pu_ 5 22 39 ?_;refine pu_ 6 23 103 ?_;refine pu_ 7 24 231 ?_;refine tk_ 3 20 239 hHeld ?_;refine tk_ 8 25 495 hHeld ?_;refine join_ (σ:=Unit) 1 (bA 11 1023) (fun _=> [(21, .string sx),(26, .string sy)]) (fun _ w'=>w'=wq.drew) ?_ ?_;rotate_left
   ·intro hCont;refine two_ (i:=4) (j:=9) (Ni:=some 21) (Nj:=some 26) (bA 11 511) (bA 11 1007) rfl rfl rfl rfl kr_ (by decide) (by decide) (fun K hK=> ?_) (fun K hK=> ?_)
    ·skip
     refine cez (w1:= ?_) (v:= ?_) (by rfl) rfl ?_ ?_;rotate_left 2
     ·go_simp;constructor
      ·rfl
      ·rfl
     refine hK.out _ _ ⟨hcx,hcy⟩ (fun hHeld=> ?_);clear hK K;refine norm_ (a':= ?_) ?_ ?_;rotate_left
     ·show Act.put _ (some 21) _=_;simp only [Act.put,Zg,Zh,Zi,i64_w,i32_w];rfl
     refine one_ (i:=9) (N:=some 26) (bA 11 1023) rfl rfl kr_ (by decide) (fun K hK=> ?_);refine cez (w1:= ?_) (v:= ?_) (by rfl) rfl ?_ ?_;rotate_left 2
     ·go_simp;constructor
      ·rfl
      ·rfl
     refine hK.out _ _ ⟨hcx,hcy⟩ (fun hHeld=> ?_);clear hK K;refine norm_ (a':= ?_) ?_ ?_;rotate_left
     ·show Act.put _ (some 26) _=_;simp only [Act.put,Zg,Zh,Zi,i64_w,i32_w];rfl
     exact norm_ (by simp only [putAll,Act.put,Zg,Zh,Zi]) (hCont () _ rfl)
    ·skip
     refine cez (w1:= ?_) (v:= ?_) (by rfl) rfl ?_ ?_;rotate_left 2
     ·go_simp;constructor
      ·rfl
      ·rfl
     refine hK.out _ _ ⟨hcx,hcy⟩ (fun hHeld=> ?_);clear hK K;refine norm_ (a':= ?_) ?_ ?_;rotate_left
     ·show Act.put _ (some 26) _=_;simp only [Act.put,Zg,Zh,Zi,i64_w,i32_w];rfl
     refine one_ (i:=4) (N:=some 21) (bA 11 1023) rfl rfl kr_ (by decide) (fun K hK=> ?_);refine cez (w1:= ?_) (v:= ?_) (by rfl) rfl ?_ ?_;rotate_left 2
     ·go_simp;constructor
      ·rfl
      ·rfl
     refine hK.out _ _ ⟨hcx,hcy⟩ (fun hHeld=> ?_);clear hK K;refine norm_ (a':= ?_) ?_ ?_;rotate_left
     ·show Act.put _ (some 21) _=_;simp only [Act.put,Zg,Zh,Zi,i64_w,i32_w];rfl
     exact norm_ (by simp only [putAll,Act.put,Zg,Zh,Zi]) (hCont () _ rfl)
   rintro _ w' rfl;have hHeld:wq.drew.cell? (ad.add i)=some (.slice A' xl ca)/\wq.drew.cell? (bd.add i)=some (.slice B' yl cb):=⟨hcx,hcy⟩;refine norm_ (a':= ?_) ?_ ?_;rotate_left
   ·simp only [putAll,Act.put,Zg,Zh,Zi];rfl
   refine pu_ 10 27 2047 ?_;refine done_ kr_ ?_;go_wp2;go_roundw
   case rel=>exact ⟨i+1,kk,m+1,by omega,by rw [HI2.out],by rw [HWM.out];rfl,HH2⟩
   case measure=>rw [HI2.out];simp [intOf];omega
  ·rw [Yb heq] at h;obtain rfl:=Zn h;have e1:((strOfNums x).toList==(strOfNums y).toList)=false:=beq_eq_false_iff_ne.2 heq;have e2:((strOfNums x).toList !=(strOfNums y).toList)=true:=bne_iff_ne.2 heq;clear heq h;generalize strOfNums x=sx at hcv1' e1 e2;generalize strOfNums y=sy at hcv2' e1 e2
   go_wp2_with fail
   refine clz (n:=11) (S:=fun w'=>w'.cell? (ad.add i)=some (.slice A' xl ca)/\w'.cell? (bd.add i)=some (.slice B' yl cb)) (ds:= []) (bA 11 0) kr_ rfl rfl ⟨hcx,hcy⟩ (fun hHeld=> ?_);refine pu_ 0 17 1 ?_;refine pu_ 1 18 3 ?_;refine pu_ 2 19 7 ?_;refine pu_ 5 22 39 ?_;refine pu_ 6 23 103 ?_;refine pu_ 7 24 231 ?_;refine tk_ 3 20 239 hHeld ?_;refine tk_ 8 25 495 hHeld ?_;refine join_ (σ:=Unit) 1 (bA 11 1023) (fun _=> [(21, .string sx),(26, .string sy)]) (fun _ w'=>w'=wq.drew) ?_ ?_;rotate_left
   ·intro hCont;refine two_ (i:=4) (j:=9) (Ni:=some 21) (Nj:=some 26) (bA 11 511) (bA 11 1007) rfl rfl rfl rfl kr_ (by decide) (by decide) (fun K hK=> ?_) (fun K hK=> ?_)
    ·skip
     refine cez (w1:= ?_) (v:= ?_) (by rfl) rfl ?_ ?_;rotate_left 2
     ·go_simp;constructor
      ·rfl
      ·rfl
     refine hK.out _ _ ⟨hcx,hcy⟩ (fun hHeld=> ?_);clear hK K;refine norm_ (a':= ?_) ?_ ?_;rotate_left
     ·show Act.put _ (some 21) _=_;simp only [Act.put,Zg,Zh,Zi,i64_w,i32_w];rfl
     refine one_ (i:=9) (N:=some 26) (bA 11 1023) rfl rfl kr_ (by decide) (fun K hK=> ?_);refine cez (w1:= ?_) (v:= ?_) (by rfl) rfl ?_ ?_;rotate_left 2
     ·go_simp;constructor
      ·rfl
      ·rfl
     refine hK.out _ _ ⟨hcx,hcy⟩ (fun hHeld=> ?_);clear hK K;refine norm_ (a':= ?_) ?_ ?_;rotate_left
     ·show Act.put _ (some 26) _=_;simp only [Act.put,Zg,Zh,Zi,i64_w,i32_w];rfl
     exact norm_ (by simp only [putAll,Act.put,Zg,Zh,Zi]) (hCont () _ rfl)
    ·skip
     refine cez (w1:= ?_) (v:= ?_) (by rfl) rfl ?_ ?_;rotate_left 2
     ·go_simp;constructor
      ·rfl
      ·rfl
     refine hK.out _ _ ⟨hcx,hcy⟩ (fun hHeld=> ?_);clear hK K;refine norm_ (a':= ?_) ?_ ?_;rotate_left
     ·show Act.put _ (some 26) _=_;simp only [Act.put,Zg,Zh,Zi,i64_w,i32_w];rfl
     refine one_ (i:=4) (N:=some 21) (bA 11 1023) rfl rfl kr_ (by decide) (fun K hK=> ?_);refine cez (w1:= ?_) (v:= ?_) (by rfl) rfl ?_ ?_;rotate_left 2
     ·go_simp;constructor
      ·rfl
      ·rfl
     refine hK.out _ _ ⟨hcx,hcy⟩ (fun hHeld=> ?_);clear hK K;refine norm_ (a':= ?_) ?_ ?_;rotate_left
     ·show Act.put _ (some 21) _=_;simp only [Act.put,Zg,Zh,Zi,i64_w,i32_w];rfl
     exact norm_ (by simp only [putAll,Act.put,Zg,Zh,Zi]) (hCont () _ rfl)
   rintro _ w' rfl;have hHeld:wq.drew.cell? (ad.add i)=some (.slice A' xl ca)/\wq.drew.cell? (bd.add i)=some (.slice B' yl cb):=⟨hcx,hcy⟩;refine norm_ (a':= ?_) ?_ ?_;rotate_left
   ·simp only [putAll,Act.put,Zg,Zh,Zi];rfl
   refine pu_ 10 27 2047 ?_;refine done_ kr_ ?_;go_wp2;go_ret;exact ⟨rfl,by rw [HWM.out];exact ⟨m+1,rfl⟩⟩
 ·rw [Yb (by rw [HN0.out];omega)] at h;obtain rfl:=Zn h;clear h;go_wp2;go_ret;exact ⟨rfl,m,HWM.out⟩
def cCz.f (k:Nat) (l0:List Int) (l1:List Int):Option (List Int×Int):=(aOz.f k (([l0,l1] :List (List Int)))).bind fun bt593=>(some (bt593.1,bt593.2))
theorem cCz.calls (k : Nat) (P0_ : Nat -> Prop) (A0 : Option Addr) (c0 : Nat) (l0 : List Int) (P1_ : Nat -> Prop) (A1 : Option Addr) (c1 : Nat) (l1 : List Int) (r1 : List Int) (r2 : Int) (w : World) (hs0 : Kd.V (Kd.int .u8) 5 w w.heap.size (fun k_ => P0_ k_) (.slice A0 l0.length c0) l0) (hs1 : Kd.V (Kd.int .u8) 5 w w.heap.size (fun k_ => P1_ k_) (.slice A1 l1.length c1) l1) (h : cCz.f k l0 l1 = some (r1, r2)) :
  Calls Tryz.prog 68 #[.slice A0 l0.length c0, .slice A1 l1.length c1] w fun e w'=> ∃v0_:Value,e= .returned (.tuple #[v0_, .int .i64 r2])/\Kd.R (Kd.int .u8) 5 w' w.heap.size (fun k_=>(w.heap.size<=k_)) v0_ r1/\Below w.heap.size w w':=by
 have HO0:=Za (show Kd.V (Kd.int .u8) 5 w w.heap.size (fun k_=>((P0_ k_\/P1_ k_)\/w.heap.size<=k_)) (.slice A0 l0.length c0) l0 from Kd.b1z hs0 (fun k_ hk=> .inl (.inl hk)));have HO1:=Za (show Kd.V (Kd.int .u8) 5 w w.heap.size (fun k_=>((P0_ k_\/P1_ k_)\/w.heap.size<=k_)) (.slice A1 l1.length c1) l1 from Kd.b1z hs1 (fun k_ hk=> .inl (.inr hk)));have HB:=Za (Zw w.heap.size w);have H:=h;clear h;unfold cCz.f at H;obtain ⟨y590,hy590⟩: ∃y_:List (List Int),y_=(([l0,l1] :List (List Int))):=⟨_,rfl⟩
 first|rw [Zl, <-hy590] at H|rw [<-hy590] at H
 (try dsimp only at H)
 have Ny590:=Za hy590;clear hy590;obtain ⟨⟨t593,t594⟩,A3,H⟩:=ob_ H
 (try dsimp only at H)
 simp only [Zx,Zy] at H;obtain ⟨rfl,rfl⟩:=H;go_enter Tryz.func68,Tryz.ntmps68
 go_wp2_with (first|((with_reducible refine blz (N:=8) rfl ?_);refine Kd.N_lit (Kd.slice 5 (Kd.int .u8)) _ 34 ?hg (N':=8) ?hd (xs:=([l0,l1] :List (List Int))) (inner:= [.slice A0 l0.length c0, .slice A1 l1.length c1]) (ok:=(fun k_=>((P0_ k_\/P1_ k_)\/w.heap.size<=k_))) (okp:=(fun k_=>((P0_ k_\/P1_ k_)\/w.heap.size<=k_))) ?hr ?hp (fun _ hk=>hk) ((show∀k_,w.heap.size<=k_->(fun k_=>((P0_ k_\/P1_ k_)\/w.heap.size<=k_)) k_ from fun k_ hk=>(.inr (Zt (aez bl_) hk))) _ (Zv _)) (Zw _ _) (Zv _) (by simp) ?_;(case hd=>rfl);(case hg=>rfl);(case hr=>first|(go_simp;done)|(go_simp;rfl));(case hp=>exact (Reps.one (show Kd.FK (Kd.slice 5 (Kd.int .u8)) _ _ l0 [.slice A0 l0.length c0] from (Kd.cWz (Kd.bCz (Kd.b1z (ok':=(fun k_=>((P0_ k_\/P1_ k_)\/w.heap.size<=k_))) (HO0.out) (fun k_ hk=>hk))).2.1 (Kd.V_F (Kd.b1z (ok':=(fun k_=>((P0_ k_\/P1_ k_)\/w.heap.size<=k_))) (HO0.out) (fun k_ hk=>hk))))) (Reps.one (show Kd.FK (Kd.slice 5 (Kd.int .u8)) _ _ l1 [.slice A1 l1.length c1] from (Kd.cWz (Kd.bCz (Kd.b1z (ok':=(fun k_=>((P0_ k_\/P1_ k_)\/w.heap.size<=k_))) (HO1.out) (fun k_ hk=>hk))).2.1 (Kd.V_F (Kd.b1z (ok':=(fun k_=>((P0_ k_\/P1_ k_)\/w.heap.size<=k_))) (HO1.out) (fun k_ hk=>hk))))) (Reps.none _ _))));intro v591 w4 ho5 hb hg_ hnew_;clear hg_ hnew_;(first|rw [<-Ny590.out] at ho5|(simp only [Int.reduceToNat] at ho5;rw [<-Ny590.out] at ho5));have n_:=Zb (Za (Kd.bPz (xd_ HO0.out) (Kd.czz ho5) hb)) (Zb (Za (Kd.bPz (xd_ HO1.out) (Kd.czz ho5) hb)) (Zb (Za (Kd.cbz ho5 (aez bl_))) (hs_ HB hb)));clear HO0 HO1 HB;obtain ⟨HO0,HO1,HO592,HB⟩:=n_;clear hb ho5;obtain ⟨Ao6,co6,eo6⟩:=Kd.cRz HO592.out;subst eo6)|((with_reducible refine abz (f:=82) rfl ?_);refine gl_ (some 9) Tryz.func82 #[.slice Ao6 y590.length co6] ?_;(with_reducible refine (aOz.calls k _ _ y590 t593 t594 _ (xd_ (Kd.bnz HO592.out).2.2) ((Kd.bnz HO592.out).2.1) A3.out).mono ?_);rintro e w7 ⟨v595,rfl,ho0,hb⟩;refine ⟨_,rfl,?_⟩;have n_:=Zb (Za (Kd.bPz (xd_ HO0.out) (Kd.bIz ho0) hb)) (Zb (Za (Kd.bPz (xd_ HO1.out) (Kd.bIz ho0) hb)) (Zb (Za (Kd.cpz (xd_ HO592.out) (Kd.bIz ho0) hb)) (Zb (Za (Kd.bDz (Kd.R_newM (M:=fun k_=>(w.heap.size<=k_)) ho0 (aez bl_) (fun k_ h_=>h_)) (aez bl_))) (hs_ HB hb))));clear HO0 HO1 HO592 HB;obtain ⟨HO0,HO1,HO592,HO596,HB⟩:=n_;clear hb ho0))
 go_ret2;exact ⟨_,er_,rm_ HO596,bl_⟩
def aIz.l (K:Nat) (wb:Int) (n i:Nat) (M:List (List Int)) (d:List Int):Nat->List (List Int)->List (List Int)->Option (List (List Int))
 |_, [],acc=>some acc
 |j,s::ss,acc=>if j<n then (if s.length<=1000000 then aIz.l K wb n i M d (j+1) ss (acc++ [s]) else none) else (cCz.f K s (mulB wb ((M.getD (j - n) []).getD i 0) d)).bind fun t=>if t.1.length<=1000000 then aIz.l K wb n i M d (j+1) ss (acc++ [t.1]) else none
def aIz.g (k:Nat) (p n m:Int) (l:List (List Int)) (i:Nat) (b:List Int):Option (List (List Int)×Int):=
 (cCz.f k (l.getD i []) b).bind fun d=>if d.1.length % wN (pbits p)=0/\d.1.length<=1000000 then ((aIz.l k (pbits p) n.toNat i (parM p n.toNat m.toNat) d.1 0 l []).bind fun o=>some (o.set i b,0)) else none
def aIz.f (k:Nat) (a0_0 a0_1 a0_2:Int) (l1:List (List Int)) (a2:Int) (l3:List Int):Option (List (List Int)×Int):=
 (bEz.f a0_0 a0_1 a0_2 l1).bind fun b=>if b=true then (if 0<=a2/\a2<a0_1 then ((cuz.f a0_0 a0_1 a0_2 l3).bind fun e=>if e=true then (if l1.any (fun s=>(s.length:Int) !=(l3.length:Int))=true then some ([],1) else if l3.length<=1000000 then aIz.g k a0_0 a0_1 a0_2 l1 a2.toNat l3 else none) else some ([],1)) else some ([],1)) else some ([],1)
theorem update1.calls (db : Nat) (A : Option Addr) (n c : Nat) (x : List Int) (A' : Option Addr) (c' : Nat) (W : World) (hb : W.cell? ⟨db, 0, none⟩ = some (.slice A n c)) :
  Calls Tryz.prog 67 #[.slice A' x.length c', .pointer (some ⟨db,0,none⟩)] W fun e w'=>e= .returned (.bool ((x.length:Int) !=(n:Int)))/\Drawn0 W w':=by
 generalize x.length=m;go_enter Tryz.func67,Tryz.ntmps67;go_wp2;go_ret;exact ⟨rfl,Drawn0.refl _⟩
theorem add.ok (k : Nat) (A0 A1 : Option Addr) (c0 c1 : Nat) (l0 l1 r1 : List Int) (r2 : Int) (w : World) (h0 : Kd.C (Kd.int .u8) w A0 l0.length l0) (hc0 : l0.length <= c0) (h1 : Kd.C (Kd.int .u8) w A1 l1.length l1) (hc1 : l1.length <= c1) (h : cCz.f k l0 l1 = some (r1, r2)) :
  Calls Tryz.prog 68 #[.slice A0 l0.length c0, .slice A1 l1.length c1] w fun e w'=> ∃v,e= .returned (.tuple #[v, .int .i64 r2])/\Kd.R (Kd.int .u8) 5 w' w.heap.size (fun _=>True) v r1/\Below w.heap.size w w':=by
 refine (cCz.calls k (fun q=>q<w.heap.size) A0 c0 l0 (fun q=>q<w.heap.size) A1 c1 l1 r1 r2 w (Kd.V_mk hc0 (C_F (Kd.dhz _) h0)) (Kd.V_mk hc1 (C_F (Kd.dhz _) h1)) h).mono ?_;rintro e w' ⟨v,rfl,hR,hB⟩;exact ⟨v,rfl,Kd.aJz hR (fun _ _=>trivial),hB⟩
theorem aIz.go (k : Nat) (p : Int) (n mm i L N : Nat) (A1 A3 : Option Addr) (c1 c3 : Nat) (l : List (List Int)) (b d1 : List Int) (d2 : Int) (o : List (List Int)) (W : World)
  (hf:bEz.f p (n:Int) (mm:Int) l=some true) (he:cuz.f p (n:Int) (mm:Int) b=some true) (h:aDz.f p (n:Int) (mm:Int)=some true)
  (hN:l.length=N) (hL:b.length=L) (hi:i<n) (hnN:N=n+mm)
  (hr:Kd.C (dM 5 .u8) W A1 l.length l) (hc1:l.length<=c1) (hb:Kd.C (Kd.int .u8) W A3 b.length b) (hc3:b.length<=c3)
  (ha:l.any (fun s=>(s.length:Int) !=(b.length:Int))=false) (hl:L<=1000000)
  (hd:cCz.f k (l.getD i []) b=some (d1,d2)) (hd0:d1.length % wN (pbits p)=0) (hdl:d1.length<=1000000)
  (hres:aIz.l k (pbits p) n i (parM p n mm) d1 0 l [] =some o):
  Calls Tryz.prog 33 #[.agg #[.int .i64 p, .int .i64 (n:Int), .int .i64 (mm:Int)], .slice A1 N c1, .int .i64 (i:Int), .slice A3 L c3] W fun e w'=> ∃v,e= .returned (.tuple #[v, .int .i64 0])/\Kd.S (dM 5 .u8) 34 w' W.heap.size (fun _=>True) v (o.set i b)/\Below W.heap.size W w':=by
 obtain ⟨p1,p2,k1,k2,m1,m2⟩:=cvz h;have HFI:=Za (fun (w1:World) (hB:Below W.heap.size W w1)=>bEz.calls p (n:Int) (mm:Int) A1 c1 l true w1 (Kd.azz hr hB) hc1 hf);have HEV:=Za (fun (w1:World) (hB:Below W.heap.size W w1)=>cuz.calls p (n:Int) (mm:Int) A3 c3 b true w1 (Kd.azz hb hB) hc3 he);rw [hN] at HFI;rw [hL] at HEV;have HP:=Za (fun w=>cZz.ok p (n:Int) (mm:Int) w h);have HFD:=Za (dkz.calls p ⟨p1,p2⟩);have HPB:=Za (djz p);have hgd:=dgz p n mm (by omega) (by omega) (by omega) (by omega);simp only [Zu] at HP;have HRES:=Za hres;have HGD:=Za hgd;have HR:=Za hr;have HB3:=Za hb;have HN:=Za hN;have HL:=Za hL;have HD:=Za hd;have HD0:=Za hd0;have HDL:=Za hdl;have HA:=Za ha;have HC1:=Za hc1;have HC3:=Za hc3;generalize parM p n mm=M at HP HGD HRES;generalize pbits p=wb at HFD HPB HGD HRES HD0;have hu:=Tryz.underlying23;have hmf: ∀(fn:Fn) (first cap:Array Value) (w:World),(Instr.makeFunc fn first cap).run Tryz.prog w= .ok (.func fn first cap) w:=fun _ _ _ _=>rfl
 have HB:=Za (alz (alz (Zw W.heap.size W) (.cells #[.int .i64 p, .int .i64 (n:Int), .int .i64 (mm:Int)] 23)) (.cells #[.slice A3 L c3] 34));have HX:=Za (aEz (b7z W (.cells #[.int .i64 p, .int .i64 (n:Int), .int .i64 (mm:Int)] 23)) (.cells #[.slice A3 L c3] 34));have HY:=Za (b7z (W.alloc (.cells #[.int .i64 p, .int .i64 (n:Int), .int .i64 (mm:Int)] 23)) (.cells #[.slice A3 L c3] 34));have hz:(W.alloc (.cells #[.int .i64 p, .int .i64 (n:Int), .int .i64 (mm:Int)] 23)).heap.size=W.heap.size+1:=by simp
 rw [hz] at HY;have i0:decide ((i:Int)<0)=false:=Ze (by omega);have i1:decide ((i:Int)>=(n:Int))=false:=Ze (by omega);have i2:(0:Int)<=(i:Int):=by omega
 have i3:(i:Int)<(N:Int):=by omega
 have HNN:=Za hnN;have mm4:mm<=4:=by omega
 have n8:n<=8:=by omega
 have N12:N<=12:=by omega
 clear h hf he hr hb hc1 hc3 ha hd hd0 hdl hres hgd hN hL hz hnN;go_enter Tryz.func33,Tryz.ntmps33
 go_wp2_with fail
 generalize (W.alloc (.cells #[.int .i64 p, .int .i64 (n:Int), .int .i64 (mm:Int)] 23)).alloc (.cells #[.slice A3 L c3] 34)=w0 at HB HX HY|-;refine (HFI.out w0 HB.out).mono ?_;rintro e w1 ⟨rfl,hB1⟩;have HB1:=Za (HB.out.trans (hB1.mono HB.out.size));have HX1:=Za (awz HX.out hB1);have HY1:=Za (awz HY.out hB1);have q0:w1.cell? ⟨W.heap.size,0,none⟩=some (.int .i64 p):=(aaz HX1.out 0).trans rfl;have q1:w1.cell? ⟨W.heap.size,1,none⟩=some (.int .i64 (n:Int)):=(aaz HX1.out 1).trans rfl;have q2:w1.cell? ⟨W.heap.size,2,none⟩=some (.int .i64 (mm:Int)):=(aaz HX1.out 2).trans rfl;have q3:w1.cell? ⟨W.heap.size+1,0,none⟩=some (.slice A3 L c3):=(aaz HY1.out 0).trans rfl;clear hB1 HX HY HFI
 go_wp2_with fail
 refine (HEV.out w1 HB1.out).mono ?_;rintro e w2 ⟨rfl,hB2⟩;have HB2:=Za (HB1.out.trans (hB2.mono HB1.out.size));have HX2:=Za (awz HX1.out hB2);have HY2:=Za (awz HY1.out hB2)
 have HCO:=Za (con_Update1.calls (fun x=>(x.length:Int) !=(b.length:Int)) (.pointer (some ⟨W.heap.size+1,0,none⟩)) A1 c1 l w2 (Kd.azz HR.out HB2.out) (by rw [HN.out];omega) (fun m x A' c' _ _ _=>by
  rw [HL.out]
  exact update1.calls (W.heap.size+1) A3 L c3 x A' c' _ ((aaz (cwz HY2.out m) 0).trans rfl)))
 rw [HA.out,HN.out] at HCO;clear hB2 HX1 HY1 q0 q1 q2 q3 HB HB1 HEV HA
 go_wp2_with fail
 refine HCO.out.mono ?_;rintro e w3 ⟨rfl,m3,rfl⟩;have HB3':=Za (aSz HB2.out m3);have HX3:=Za (cwz HX2.out m3);have HY3:=Za (cwz HY2.out m3);clear HCO HX2 HY2 HB2;generalize w2.drewN m3=w3 at HB3' HX3 HY3|-;have q0:w3.cell? ⟨W.heap.size,0,none⟩=some (.int .i64 p):=(aaz HX3.out 0).trans rfl
 go_wp2_with fail
 refine (HFD.out w3).mono ?_;rintro e w4 ⟨g,rfl,f1,f2,f3⟩;have HB4:=Za (HB3'.out.trans (f3.mono HB3'.out.size));have HX4:=Za (awz HX3.out f3);have HY4:=Za (awz HY3.out f3);have HF4:=Za (f1.fd (fun _=>False) (fun h=>h));have HG4:=Za (show W.heap.size<=g from Zt HB3'.out.size f2);have HGN:=Za (show W.heap.size≠g/\W.heap.size+1≠g by have:=aPz HY3.out;omega);clear f1 f2 f3 q0 HX3 HY3 HB3' HFD;have q0:w4.cell? ⟨W.heap.size,0,none⟩=some (.int .i64 p):=(aaz HX4.out 0).trans rfl;have q1:w4.cell? ⟨W.heap.size,1,none⟩=some (.int .i64 (n:Int)):=(aaz HX4.out 1).trans rfl;have q2:w4.cell? ⟨W.heap.size,2,none⟩=some (.int .i64 (mm:Int)):=(aaz HX4.out 2).trans rfl
 go_wp2_with fail
 refine (HP.out w4).mono ?_;rintro e w5 ⟨B,bc,rfl, -,hM5,hB5⟩;have HB5:=Za (HB4.out.trans (hB5.mono HB4.out.size));have HX5:=Za (awz HX4.out hB5);have HY5:=Za (awz HY4.out hB5);have HF5:=Za (HF4.out.below hB5);have HM5:=Za (show Kd.F (dM 3 .i64) w5 (NotG g) B mm M from Kd.bZz hM5 (fun q hq=>by show q≠g;have:=HF4.out.lt;omega));have HML:=Za (show M.length=mm from HGD.out.2);obtain ⟨s0,hs0⟩: ∃x,l[i]?=some x:=⟨_,Zf (by have:=HN.out;omega)⟩;have hg0:l.getD i [] =s0:=by rw [Zm,hs0];rfl
 have hrC:=Kd.azz HR.out HB5.out;obtain ⟨a1,As,cs,rfl,e1,l1,C1⟩:=b5z hrC i s0 hs0;have HAD:=Za (add.ok k As A3 cs c3 s0 b d1 d2 w5.drew (Kd.b4z C1) l1 (Kd.b4z (Kd.azz HB3.out HB5.out)) HC3.out (by rw [<-hg0];exact HD.out));rw [HL.out] at HAD;have HS0:=Za hs0;generalize s0.length=ns at HAD e1 l1;clear q0 q1 q2 hB5 hM5 HX4 HY4 HB4 HF4 HP HD hs0 hg0 C1 hrC;have q3:w5.cell? ⟨W.heap.size+1,0,none⟩=some (.slice A3 L c3):=(aaz HY5.out 0).trans rfl;have e2:w5.cell? (a1.add i)=some (.slice As ns cs):=e1;clear e1;go_wp2;refine clz (n:=11) (S:=fun w'=>w'.cell? (a1.add i)=some (.slice As ns cs)/\w'.cell? ⟨W.heap.size+1,0,none⟩=some (.slice A3 L c3)) (ds:= []) (bA 11 0) kr_ rfl rfl ⟨e2,q3⟩ (fun hHeld=> ?_);refine pu_ 0 52 1 ?_;refine pu_ 1 53 3 ?_;refine pu_ 2 54 7 ?_;refine tk_ 3 55 15 hHeld ?_;refine tk_ 4 56 31 hHeld ?_;refine one_ (i:=5) (N:=some 57) (bA 11 63) rfl rfl kr_ (by decide) (fun K hK=> ?_)
 refine goes_ Tryz.func68 kr_ rfl #[.slice As ns cs, .slice A3 L c3] (by rfl) rfl rfl am_ ?_
 with_reducible refine (HAD.out).mono ?_
 rintro e w6 ⟨v6,rfl,p3,p4⟩;refine ⟨_,rfl,?_⟩;have P3:=Za p3;have HBx:=Za p4;have HB6:=Za (HB5.out.drew.trans (p4.mono HB5.out.drew.size));have HX6:=Za (awz (show w5.drew.heap[W.heap.size]?=_ from HX5.out) p4);have HY6:=Za (awz (show w5.drew.heap[W.heap.size+1]?=_ from HY5.out) p4);have e4:=aUz p4 (show w5.drew.cell? (a1.add i)=some (.slice As ns cs) from e2);clear p3 p4;refine hK.out _ _ ⟨e4,(aaz HY6.out 0).trans rfl⟩ (fun hHeld=> ?_);clear hK K;refine norm_ (a':= ?_) ?_ ?_;rotate_left
 ·show Act.put _ (some 57) _=_;simp only [Act.put,Zg,Zh,Zi,i64_w,i32_w];rfl
 refine pu_ 6 51 127 ?_;refine pu_ 7 58 255 ?_;refine pu_ 8 59 511 ?_;refine pu_ 9 13 1023 ?_;refine pu_ 10 14 2047 ?_;refine done_ kr_ ?_;clear e4 hHeld;have HF6:=Za (HF5.out.drew.below HBx.out);have HM6:=Za (Kd.cEz (Kd.F_drew HM5.out) HBx.out);have HG6:=Za (show g<w5.drew.heap.size from HF5.out.lt)
 have HR6:=Za (show Kd.F (dM 5 .u8) w6 (NotG g) (some a1) N l from by
  have h0:=C_F (Kd.dSz _ (Kd.dhz _)) HR.out;rw [HN.out] at h0
  exact Kd.bZz (Kd.cmz h0 (fun q hq _=>HB6.out.block q hq)) (fun q hq=>by show q≠g;have:=HG4.out;omega))
 obtain ⟨A6,c6,rfl,l6, -⟩:=Kd.c6z P3.out;have HD6:=Za (Kd.bZz (Kd.R_F (Kd.aJz (Kd.bTz P3.out) (fun q hq=>hq.2.1))) (fun q (hq:w5.drew.heap.size<=q)=>show NotG g q by show q≠g;have:=HG6.out;omega));have HL6:=Za l6;have HD1L:=Za (show d1.length=d1.length from rfl);clear HBx HB5 HX5 HY5 HF5 HM5 HG6 HAD e2 q3 P3 l6 l1 HS0;go_wp2
 go_loopw [15,62] (fun v iv wr=> ∃(k':Nat) (acc:List (List Int)),k'<=N/\iv= .int .i64 (k':Int)/\Aside0 (Kd.S (dM 5 .u8) 34 wr w6.heap.size (fun _=>True) v acc)/\Aside0 (BB w6 wr g)/\Aside0 (Fd wr g wb (fpoly wb) (fun _=>False))/\Aside0 (aIz.l k wb n i M d1 k' (l.drop k') acc=some o)/\acc.length=k') (fun _ iv _=>N - (intOf iv).toNat)
 case atStart=>exact ⟨0, [],Nat.zero_le _,rfl,⟨Kd.S_nil _ _ _ _ _⟩,⟨BB.refl _ _⟩,HF6,HRES,rfl⟩
 clear HF6 HRES;obtain ⟨w7,rfl⟩: ∃w7,w7=wr:=⟨_,rfl⟩;obtain ⟨j,acc,hj,rfl,HO,HB,HF,HLL,hacc⟩:=hrel;have HAC:=Za hacc;clear hacc;by_cases hlt:j<N
 ·obtain ⟨s,hs⟩: ∃x,l[j]?=some x:=⟨_,Zf (by have:=HN.out;omega)⟩
  have hdr:l.drop j=s::l.drop (j+1):=by
   obtain ⟨h1,h2⟩:=Zk hs;rw [List.drop_eq_getElem_cons h1,h2]
  have hl':=HLL.out;rw [hdr,aIz.l] at hl';have hC7:=F_bb HR6.out HB.out;rw [<-HN.out] at hC7;obtain ⟨Bs,ds,e1,l1,FR⟩:=row_atF hC7 j s hs;have C1:=Kd.F_now FR;have HFR:=Za FR;have HX7:=Za ((HB.out.block _ (aPz HX6.out) HGN.out.1).trans HX6.out);have q1:w7.cell? ⟨W.heap.size,1,none⟩=some (.int .i64 (n:Int)):=(aaz HX7.out 1).trans rfl;have k1:(0:Int)<=(j:Int):=by omega
  have k2:(j:Int)<(N:Int):=by omega
  have HLS:=Za hl';have HCS:=Za C1;have HL1:=Za l1;have hbB:=HB.out.size;have HBB:=Za hbB;clear hbB hs hdr hl' hC7 FR C1 l1 HLL;by_cases hjn:j<n
  ·have j1:decide ((j:Int)>=(n:Int))=false:=Ze (by omega);have hl2:=HLS.out;rw [Ya hjn] at hl2
   have hsl:s.length<=1000000:=by
    by_cases hh:s.length<=1000000
    ·exact hh
    ·rw [Yb hh] at hl2;cases hl2
   rw [Ya hsl] at hl2;have HL2:=Za hl2;have HCL:=Za (clone_b.calls Bs ds s w7 HCS.out hsl);obtain ⟨ns',hns⟩: ∃z,s.length=z:=⟨_,rfl⟩;have HNS:=Za hns;rw [hns] at HCL e1;clear hl2 hns hsl HLS HCS HL1
   go_wp2_with fail
   refine HCL.out.mono ?_;rintro e w8 ⟨u,rfl,p1,p2⟩;obtain ⟨ua,uc,rfl⟩:=Kd.aRz p1;rw [HNS.out];have hsf:=d3z HO.out p2 HBB.out p1;rw [HNS.out] at hsf;have HS1:=Za hsf.1;have HM1:=Za hsf.2.1;have HOK:=Za hsf.2.2;have HSW:=Za (Zt HBB.out p2.size);have HB8:=Za (HB.out.dyz (p2.mono HBB.out));have HF8:=Za (HF.out.below p2);have HTY:=Za (Kd.bNz hsf.1);clear p1 p2 hsf HCL HO HB HF q1
   go_wp2_with ((with_reducible refine anz (b:= .append) (xs:= #[.tmp 93, .tmp 96]) rfl ?_);go_must (at_builtin;refine Kd.bLz (dM 5 .u8) (w0:=w8) w6.heap.size rfl (.tmp 93) (.tmp 96) 24 34 (.slice none 0 0) 24 rfl Tryz.underlying24 kr_ rfl (by decide) (by decide) _ _ s [.slice ua ns' uc] (fun _=>True) (fun k'=>w7.heap.size<=k') rfl rfl HM1.out HOK.out (fun _ _=>trivial) HS1.out (Zw _ _) HSW.out ?aL ?_;(case aL=>have:=HAC.out;omega));intro v2 w9 ho2 hb2 hg2 hat2;have HO9:=Za ho2;have HB9:=Za hb2;have HG9:=Za hg2;clear ho2 hb2 hg2 hat2)
   go_roundw
   case rel=>exact ⟨j+1,acc++ [s],by omega,by go_num,HO9,⟨HB8.out.dyz HB9.out⟩,⟨HF8.out.grown HG9.out HTY.out (by decide) (by decide)⟩,HL2,by have:=HAC.out;simp;omega⟩
   case measure=>simp [intOf];omega
  ·have j1:decide ((j:Int)>=(n:Int))=true:=Zd (by omega);have hl2:=HLS.out;rw [Yb hjn] at hl2;obtain ⟨⟨t1,t2⟩,ht,hl2⟩:=Option.bind_eq_some_iff.1 hl2;dsimp only at hl2
   have hsl:t1.length<=1000000:=by
    by_cases hh:t1.length<=1000000
    ·exact hh
    ·rw [Yb hh] at hl2;cases hl2
   rw [Ya hsl] at hl2;obtain ⟨z,hz⟩: ∃z,j - n=z:=⟨_,rfl⟩;rw [hz] at ht;have zj:(j:Int) - (n:Int)=(z:Int):=by omega
   have z0:(0:Int)<=(z:Int):=by omega
   have z1:(z:Int)<(mm:Int):=by have:=HNN.out;omega
   obtain ⟨row,hrow⟩: ∃x,M[z]?=some x:=⟨_,Zf (by have:=HML.out;omega)⟩;have hgr:=HGD.out.1 row (Zo hrow);have hM7:=Kd.F_now (F_bb HM6.out HB.out);rw [<-HML.out] at hM7;obtain ⟨b2,Rs,rs,rfl,e5,r2,RC⟩:=b5z hM7 z row hrow;obtain ⟨x,hx⟩: ∃x,row[i]?=some x:=⟨_,Zf (by have:=hgr.1;omega)⟩;obtain ⟨xa,rfl,e6⟩:=cHz RC i x hx
   have hxe:(M.getD z []).getD i 0=x:=by
    simp [Zm,hrow,hx]
   rw [hxe] at ht
   have HMU:=Za (rMul.ok g wb x (fun _=>False) A6 c6 d1 w7 HPB.out HF.out (fun _ h=>h.elim) (Kd.F_now (F_bb HD6.out HB.out)) HDL.out HD0.out (by
    have:=hgr.2 x (Zo hx)
    simp [inF,this]))
   rw [hgr.1] at e5;have HT:=Za ht;have HL2:=Za hl2;have HSL:=Za hsl;obtain ⟨nd,hnd⟩: ∃z,d1.length=z:=⟨_,rfl⟩;rw [hnd] at HMU|-;clear hl2 hsl ht HLS hrow hgr hM7 r2 RC hx hxe hz
   go_wp2_with fail
   refine HMU.out.mono ?_;rintro e w8 ⟨u8,rfl,p1,p2,p3⟩;obtain ⟨ua,uc,rfl,lu,CU⟩:=Kd.c6z p1;have HAD:=Za (add.ok k Bs ua ds uc s (mulB wb x d1) t1 t2 w8 (Kd.F_now (F_bb HFR.out p3)) HL1.out CU lu HT.out);have HF8:=Za p2;have HB8:=Za p3;generalize s.length=ns1 at HAD e1;generalize (mulB wb x d1).length=nu at HAD;clear p1 p2 p3 lu CU HMU e5 e6 q1
   go_wp2_with fail
   refine HAD.out.mono ?_;rintro e w9 ⟨u9,rfl,p4,p5⟩;obtain ⟨va,vc,rfl,lv,CV⟩:=Kd.c6z p4;have HCL:=Za (clone_b.calls va vc t1 w9 CV HSL.out);have HB9:=Za p5;obtain ⟨gcs,hgcs⟩:=Fd.cells HF.out;have HS8:=Za (Kd.cGz (Kd.ebz (Kd.bFz (Kd.eoz HO.out hgcs (by decide))) (fun q hq=>HB8.out.block q hq.2.2.1 hq.1.2)) (fun _ _=>trivial: ∀q,_->(fun _=>True) q));obtain ⟨nt,hnt⟩: ∃z,t1.length=z:=⟨_,rfl⟩;have HNT:=Za hnt;rw [hnt] at HCL|-;clear p4 p5 lv CV HAD hgcs hnt HO
   go_wp2_with fail
   refine HCL.out.mono ?_;rintro e w10 ⟨u,rfl,p6,p7⟩;obtain ⟨ua',uc',rfl⟩:=Kd.aRz p6;rw [HNT.out];have hsf:=d3z HS8.out (HB9.out.trans (p7.mono HB9.out.size)) (Zt HBB.out HB8.out.size) (Kd.bDz p6 HB9.out.size);rw [HNT.out] at hsf;have HS1:=Za hsf.1;have HM1:=Za hsf.2.1;have HOK:=Za hsf.2.2;have HSW:=Za (Zt (Zt HBB.out HB8.out.size) (Zt HB9.out.size p7.size));have HB10:=Za ((HB.out.trans HB8.out).dyz ((HB9.out.trans (p7.mono HB9.out.size)).mono (Zt HBB.out HB8.out.size)));have HF10:=Za ((HF8.out.below HB9.out).below p7);have HTY:=Za (Kd.bNz hsf.1);clear p6 p7 hsf HCL HB HF HS8
   go_wp2_with ((with_reducible refine anz (b:= .append) (xs:= #[.tmp 93, .tmp 96]) rfl ?_);go_must (at_builtin;refine Kd.bLz (dM 5 .u8) (w0:=w10) w6.heap.size rfl (.tmp 93) (.tmp 96) 24 34 (.slice none 0 0) 24 rfl Tryz.underlying24 kr_ rfl (by decide) (by decide) _ _ t1 [.slice ua' nt uc'] (fun _=>True) (fun k'=>w8.heap.size<=k') rfl rfl HM1.out HOK.out (fun _ _=>trivial) HS1.out (Zw _ _) HSW.out ?aL ?_;(case aL=>have:=HAC.out;omega));intro v2 w11 ho2 hb2 hg2 hat2;have HO11:=Za ho2;have HB11:=Za hb2;have HG11:=Za hg2;clear ho2 hb2 hg2 hat2)
   go_roundw
   case rel=>exact ⟨j+1,acc++ [t1],by omega,by go_num,HO11,⟨HB10.out.dyz HB11.out⟩,⟨HF10.out.grown HG11.out HTY.out (by decide) (by decide)⟩,HL2,by have:=HAC.out;simp;omega⟩
   case measure=>simp [intOf];omega
 ·obtain rfl:j=N:=by omega
  have h:=HLL.out;rw [List.drop_of_length_le (by rw [HN.out];exact Zv _),aIz.l] at h;simp only [Zx] at h;subst h;have HYW:=Za ((HB.out.block _ (aPz HY6.out) HGN.out.2).trans HY6.out);have q3:w7.cell? ⟨W.heap.size+1,0,none⟩=some (.slice A3 L c3):=(aaz HYW.out 0).trans rfl;obtain ⟨oo,oc,rfl, -, -, -⟩:=Kd.S_form HO.out (by have:=HAC.out;omega);rw [HAC.out];have HO':=HO.out;rw [HAC.out] at HO';have HOL:=Za HO'
  have HRB:=Za (show ReadsInt w7 .u8 A3 L b from by
   have h0:=C_F (Kd.dhz _) HB3.out;have h1:=Kd.F_now (F_bb (Kd.bZz (ok':=NotG g) (Kd.cmz h0 (fun q hq _=>HB6.out.block q hq)) (fun q hq=>by show q≠g;have:=HG4.out;omega)) HB.out);have h2:=reads_C h1
   rwa [HL.out] at h2)
  have HOW:=Za (World.ownsRow_lit (base:=w7.heap.size) (e:=5) (size:=1) w7 #[] 0 (Zv _) (by decide) rfl);have HBW:=Za (alz (Zw w7.heap.size w7) (.cells #[] 5));have q4:(w7.alloc (.cells #[] 5)).cell? ⟨W.heap.size+1,0,none⟩=some (.slice A3 L c3):=aUz HBW.out q3;clear HO HO' HAC HLL
  go_wp2_with ((with_reducible refine anz (b:= .append) (xs:= #[.tmp 101, .tmp 102]) rfl ?_);at_builtin;refine c0z (w0:=w7) w7.heap.size rfl (.tmp 101) (.tmp 102) 34 5 .u8 1 rfl Tryz.underlying34 kr_ (by decide) _ [] b A3 L c3 rfl rfl ?aO ?aR ?aB ?aS ?aL ?_;(case aO=>exact HOW.out);(case aR=>exact HRB.out.below (alz (Zw _ _) _));(case aB=>exact HBW.out);(case aS=>simp);(case aL=>simp;omega);intro v1 w8 ho1 hb1 hg1 hat1;have hr1:=diz ho1;obtain ⟨vA,vC,rfl⟩:=Kd.aRz hr1;have HO1:=Za hr1;have HB1:=Za hb1;clear ho1 hb1 hg1 hat1 hr1;have hS8:=Kd.dvz (Kd.cGz (Kd.bFz HOL.out) (fun q hq=>(⟨trivial,fun e=>by have:=hq.2.2.1;omega⟩:True/\ ¬w7.heap.size<=q))) HB1.out;obtain ⟨oki,cc,hcl,hM,hcc,hfr,hoki,hH⟩:=Kd.S_elem hS8 ([] :List Int) (i:Int) (by omega) (by omega);obtain ⟨u0,rfl,hu0⟩:=hM;have hc0:=hcc 0 u0 rfl;have hf0:=hfr 0;rw [Zu,show (dM 5 .u8).sz=1 from rfl,Nat.mul_one,Nat.add_zero] at hc0 hf0;have HH:=Za hH;have HOKI:=Za hoki;clear hS8 hcl hu0 hcc hfr hoki hH)
  have hlo:oo<w7.heap.size:=Kd.S_lt HOL.out oo (by simp [Value.ownBlock]);have hR:=Kd.bDz (Kd.aJz (Kd.bTz HO1.out) (fun q hq=>hq.2.1)) HB.out.size;have hS9:=(Kd.S_seg (ok:=fun _=>True) (okg:=fun q=>w7.heap.size<=q) HH.out (by omega) (by omega) (seg:= [.slice vA ([] ++b).length vC]) (j:=0) (Zv _) (x':= [] ++b) (okp:=fun q=>w7.heap.size<=q) ⟨_,rfl,hR⟩ (fun q hq=> .inr hq) (fun q hq=>⟨trivial,by omega⟩)).1;rw [Zu,show (dM 5 .u8).sz=1 from rfl,Nat.mul_one,Nat.add_zero] at hS9;have hB9:Below W.heap.size W w8:=(HB.out.below HB6.out HG4.out).trans (HB1.out.mono (HB.out.below HB6.out HG4.out).size)
  have hoo:W.heap.size<=oo:=by
   have:=Kd.bFz HOL.out;obtain ⟨f0,h0, -⟩:=this;have:=(h0 oo (by simp [Value.ownBlock])).2.1;have:=HB6.out.size;omega
  go_ret2;exact ⟨_,rfl,Kd.cJz hS9 HB6.out.size,cVz hB9 hoo _ _⟩
theorem aIz.bad1 (p K M i : Int) (fi ev : Bool) (A1 A3 : Option Addr) (c1 c3 : Nat) (l : List (List Int)) (b : List Int) (W : World)
  (hf:bEz.f p K M l=some fi) (he:fi=true->0<=i/\i<K->cuz.f p K M b=some ev)
  (hr:Kd.C (dM 5 .u8) W A1 l.length l) (hc1:l.length<=c1) (hb:Kd.C (Kd.int .u8) W A3 b.length b) (hc3:b.length<=c3)
  (hbad:fi=false\/ ¬(0<=i/\i<K)\/ev=false):
  Calls Tryz.prog 33 #[.agg #[.int .i64 p, .int .i64 K, .int .i64 M], .slice A1 l.length c1, .int .i64 i, .slice A3 b.length c3] W fun e w'=>e= .returned (.tuple #[.slice none 0 0, .int .i64 1])/\Below W.heap.size W w':=by
 have HFI:=Za (fun (w1:World) (hB:Below W.heap.size W w1)=>bEz.calls p K M A1 c1 l fi w1 (Kd.azz hr hB) hc1 hf);have HEV:=Za (fun (w1:World) (hB:Below W.heap.size W w1) (h1:fi=true) (h2:0<=i/\i<K)=>cuz.calls p K M A3 c3 b ev w1 (Kd.azz hb hB) hc3 (he h1 h2));have HBAD:=Za hbad;generalize l.length=N at HFI|-;generalize b.length=L at HEV|-;have hu:=Tryz.underlying23;have HB:=Za (alz (alz (Zw W.heap.size W) (.cells #[.int .i64 p, .int .i64 K, .int .i64 M] 23)) (.cells #[.slice A3 L c3] 34));have HX:=Za (aEz (b7z W (.cells #[.int .i64 p, .int .i64 K, .int .i64 M] 23)) (.cells #[.slice A3 L c3] 34));have HY:=Za (b7z (W.alloc (.cells #[.int .i64 p, .int .i64 K, .int .i64 M] 23)) (.cells #[.slice A3 L c3] 34));have hz:(W.alloc (.cells #[.int .i64 p, .int .i64 K, .int .i64 M] 23)).heap.size=W.heap.size+1:=by simp
 rw [hz] at HY;clear hf he hr hb hc1 hc3 hz hbad;go_enter Tryz.func33,Tryz.ntmps33
 go_wp2_with fail
 generalize (W.alloc (.cells #[.int .i64 p, .int .i64 K, .int .i64 M] 23)).alloc (.cells #[.slice A3 L c3] 34)=w0 at HB HX HY|-;refine (HFI.out w0 HB.out).mono ?_;rintro e w1 ⟨rfl,hB1⟩;have HB1:=Za (HB.out.trans (hB1.mono HB.out.size));have HX1:=Za (awz HX.out hB1);have HY1:=Za (awz HY.out hB1);clear hB1 HX HY HFI
 cases fi with
 |false=>
  go_wp2;go_ret2;exact ⟨rfl,HB1.out⟩
 |true=>
  have q0:w1.cell? ⟨W.heap.size,0,none⟩=some (.int .i64 p):=(aaz HX1.out 0).trans rfl;have q1:w1.cell? ⟨W.heap.size,1,none⟩=some (.int .i64 K):=(aaz HX1.out 1).trans rfl;have q2:w1.cell? ⟨W.heap.size,2,none⟩=some (.int .i64 M):=(aaz HX1.out 2).trans rfl;have q3:w1.cell? ⟨W.heap.size+1,0,none⟩=some (.slice A3 L c3):=(aaz HY1.out 0).trans rfl;by_cases hi0:i<0
  ·have i0:decide (i<0)=true:=Zd hi0;clear hi0;go_wp2;go_ret2;exact ⟨rfl,HB1.out⟩
  ·have i0:decide (i<0)=false:=Ze hi0;by_cases hi1:i>=K
   ·have i1:decide (i>=K)=true:=Zd hi1;clear hi0 hi1;go_wp2;go_ret2;exact ⟨rfl,HB1.out⟩
   ·have i1:decide (i>=K)=false:=Ze hi1;have HE:=Za (HEV.out w1 HB1.out rfl ⟨by omega,by omega⟩)
    obtain rfl:ev=false:=by
     rcases HBAD.out with h|h|h
     ·cases h
     ·exact Yf ⟨by omega,by omega⟩ h
     ·exact h
    clear hi0 hi1 HEV HBAD
    go_wp2_with fail
    refine HE.out.mono ?_;rintro e w2 ⟨rfl,hB2⟩;have HB2:=Za (HB1.out.trans (hB2.mono HB1.out.size));clear hB2 q0 q1 q2 q3 HE;go_wp2;go_ret2;exact ⟨rfl,HB2.out⟩
theorem aIz.bad2 (p K M i : Int) (A1 A3 : Option Addr) (c1 c3 : Nat) (l : List (List Int)) (b : List Int) (W : World)
  (hf:bEz.f p K M l=some true) (hi0:0<=i) (hi1:i<K) (he:cuz.f p K M b=some true) (hN:l.length<=1000)
  (hr:Kd.C (dM 5 .u8) W A1 l.length l) (hc1:l.length<=c1) (hb:Kd.C (Kd.int .u8) W A3 b.length b) (hc3:b.length<=c3)
  (ha:l.any (fun s=>(s.length:Int) !=(b.length:Int))=true):
  Calls Tryz.prog 33 #[.agg #[.int .i64 p, .int .i64 K, .int .i64 M], .slice A1 l.length c1, .int .i64 i, .slice A3 b.length c3] W fun e w'=>e= .returned (.tuple #[.slice none 0 0, .int .i64 1])/\Below W.heap.size W w':=by
 have HFI:=Za (fun (w1:World) (hB:Below W.heap.size W w1)=>bEz.calls p K M A1 c1 l true w1 (Kd.azz hr hB) hc1 hf);have HEV:=Za (fun (w1:World) (hB:Below W.heap.size W w1)=>cuz.calls p K M A3 c3 b true w1 (Kd.azz hb hB) hc3 he);have HCON:=Za (fun (w2:World) (hB:Below W.heap.size W w2) (hY:w2.heap[W.heap.size+1]?=some (.cells #[.slice A3 b.length c3] 34 (0,0)))=>con_Update1.calls (fun x=>(x.length:Int) !=(b.length:Int)) (.pointer (some ⟨W.heap.size+1,0,none⟩)) A1 c1 l w2 (Kd.azz hr hB) (by omega) (fun m x A' c' _ _ _=>update1.calls (W.heap.size+1) A3 b.length c3 x A' c' _ ((aaz (cwz hY m) 0).trans rfl)));rw [ha] at HCON;generalize l.length=N at HFI HCON|-;generalize b.length=L at HEV HCON|-;have hu:=Tryz.underlying23;have hmf: ∀(fn:Fn) (first cap:Array Value) (w:World),(Instr.makeFunc fn first cap).run Tryz.prog w= .ok (.func fn first cap) w:=fun _ _ _ _=>rfl
 have HB:=Za (alz (alz (Zw W.heap.size W) (.cells #[.int .i64 p, .int .i64 K, .int .i64 M] 23)) (.cells #[.slice A3 L c3] 34));have HX:=Za (aEz (b7z W (.cells #[.int .i64 p, .int .i64 K, .int .i64 M] 23)) (.cells #[.slice A3 L c3] 34));have HY:=Za (b7z (W.alloc (.cells #[.int .i64 p, .int .i64 K, .int .i64 M] 23)) (.cells #[.slice A3 L c3] 34));have hz:(W.alloc (.cells #[.int .i64 p, .int .i64 K, .int .i64 M] 23)).heap.size=W.heap.size+1:=by simp
 rw [hz] at HY;have i0:decide (i<0)=false:=Ze (by omega);have i1:decide (i>=K)=false:=Ze (by omega);clear hf he hr hb hc1 hc3 hz ha hi0 hi1 hN;go_enter Tryz.func33,Tryz.ntmps33
 go_wp2_with fail
 generalize (W.alloc (.cells #[.int .i64 p, .int .i64 K, .int .i64 M] 23)).alloc (.cells #[.slice A3 L c3] 34)=w0 at HB HX HY|-;refine (HFI.out w0 HB.out).mono ?_;rintro e w1 ⟨rfl,hB1⟩;have HB1:=Za (HB.out.trans (hB1.mono HB.out.size));have HX1:=Za (awz HX.out hB1);have HY1:=Za (awz HY.out hB1);have q0:w1.cell? ⟨W.heap.size,0,none⟩=some (.int .i64 p):=(aaz HX1.out 0).trans rfl;have q1:w1.cell? ⟨W.heap.size,1,none⟩=some (.int .i64 K):=(aaz HX1.out 1).trans rfl;have q2:w1.cell? ⟨W.heap.size,2,none⟩=some (.int .i64 M):=(aaz HX1.out 2).trans rfl;have q3:w1.cell? ⟨W.heap.size+1,0,none⟩=some (.slice A3 L c3):=(aaz HY1.out 0).trans rfl;clear hB1 HX HY HFI
 go_wp2_with fail
 refine (HEV.out w1 HB1.out).mono ?_;rintro e w2 ⟨rfl,hB2⟩;have HB2:=Za (HB1.out.trans (hB2.mono HB1.out.size));have HCO:=Za (HCON.out w2 HB2.out (awz HY1.out hB2));clear hB2 HX1 HY1 q0 q1 q2 q3 HB HB1 HEV HCON
 go_wp2_with fail
 refine HCO.out.mono ?_;rintro e w3 ⟨rfl,m3,rfl⟩;have HB3':=Za (aSz HB2.out m3);clear HCO HB2;go_wp2;go_ret2;exact ⟨rfl,HB3'.out⟩
theorem aIz.calls (k:Nat) (a0_0:Int) (a0_1:Int) (a0_2:Int) (A1:Option Addr) (c1:Nat) (l1:List (List Int)) (a2:Int) (A3:Option Addr) (c3:Nat) (l3:List Int) (r1:List (List Int)) (r2:Int) (w:World) (hr1:Kd.C (Kd.slice 5 (Kd.int .u8)) w A1 l1.length l1) (hc1:l1.length<=c1) (hr3:Kd.C (Kd.int .u8) w A3 l3.length l3) (hc3:l3.length<=c3) (h:aIz.f k a0_0 a0_1 a0_2 l1 a2 l3=some (r1,r2)):
 Calls Tryz.prog 33 #[.agg #[.int .i64 a0_0, .int .i64 a0_1, .int .i64 a0_2], .slice A1 l1.length c1, .int .i64 a2, .slice A3 l3.length c3] w fun e w'=> ∃v0_:Value,e= .returned (.tuple #[v0_, .int .i64 r2])/\Kd.S (Kd.slice 5 (Kd.int .u8)) 34 w' w.heap.size (fun _=>True) v0_ r1/\Below w.heap.size w w':=by
 have none3 : Calls Tryz.prog 33 #[.agg #[.int .i64 a0_0, .int .i64 a0_1, .int .i64 a0_2], .slice A1 l1.length c1, .int .i64 a2, .slice A3 l3.length c3] w (fun e w' => e = .returned (.tuple #[.slice none 0 0, .int .i64 1]) /\ Below w.heap.size w w') -> (some (([] : List (List Int)), (1 : Int)) = some (r1, r2)) ->
   Calls Tryz.prog 33 #[.agg #[.int .i64 a0_0, .int .i64 a0_1, .int .i64 a0_2], .slice A1 l1.length c1, .int .i64 a2, .slice A3 l3.length c3] w fun e w'=> ∃v0_:Value,e= .returned (.tuple #[v0_, .int .i64 r2])/\Kd.S (Kd.slice 5 (Kd.int .u8)) 34 w' w.heap.size (fun _=>True) v0_ r1/\Below w.heap.size w w':=by
  rintro hc he;cases he
  exact hc.mono fun e w' ⟨h1,h2⟩=>⟨_,h1,Kd.S_nil _ _ _ _ _,h2⟩
 unfold aIz.f at h;obtain ⟨fi,hfi,h⟩:=Option.bind_eq_some_iff.1 h
 cases fi with
 |false=>
  rw [Yb (by decide)] at h;exact none3 (aIz.bad1 a0_0 a0_1 a0_2 a2 false true A1 A3 c1 c3 l1 l3 w hfi (fun h=>by cases h) hr1 hc1 hr3 hc3 (.inl rfl)) h
 |true=>
  rw [Ya rfl] at h;by_cases hp:0<=a2/\a2<a0_1
  ·rw [Ya hp] at h;obtain ⟨ev,hev,h⟩:=Option.bind_eq_some_iff.1 h
   cases ev with
   |false=>
    rw [Yb (by decide)] at h;exact none3 (aIz.bad1 a0_0 a0_1 a0_2 a2 true false A1 A3 c1 c3 l1 l3 w hfi (fun _ _=>hev) hr1 hc1 hr3 hc3 (.inr (.inr rfl))) h
   |true=>
    rw [Ya rfl] at h
    have hmay:aDz.f a0_0 a0_1 a0_2=some true/\(l1.length:Int)=a0_1+a0_2:=by
     have h2:=hfi;unfold bEz.f at h2;obtain ⟨b,hb,h2⟩:=Option.bind_eq_some_iff.1 h2
     cases b with
     |false=>rw [Yb (by decide)] at h2;cases h2
     |true=>
      rw [Ya rfl] at h2;obtain ⟨p1,p2,k1,k2,m1,m2⟩:=cvz hb;refine ⟨hb,?_⟩;simp only [Zx,beq_iff_eq] at h2;rw [h2];unfold wrap64;omega
    obtain ⟨hb,hl⟩:=hmay;obtain ⟨p1,p2,k1,k2,m1,m2⟩:=cvz hb;by_cases ha:l1.any (fun s=>(s.length:Int) !=(l3.length:Int))=true
    ·rw [Ya ha] at h;exact none3 (aIz.bad2 a0_0 a0_1 a0_2 a2 A1 A3 c1 c3 l1 l3 w hfi hp.1 hp.2 hev (by omega) hr1 hc1 hr3 hc3 ha) h
    ·rw [Yb ha] at h;by_cases hs:l3.length<=1000000
     ·rw [Ya hs] at h;unfold aIz.g at h;obtain ⟨⟨d1,d2⟩,hd,h⟩:=Option.bind_eq_some_iff.1 h;dsimp only at h;by_cases hq:d1.length % wN (pbits a0_0)=0/\d1.length<=1000000
      ·rw [Ya hq] at h;obtain ⟨o,ho,h⟩:=Option.bind_eq_some_iff.1 h;cases h
       obtain ⟨n,rfl⟩:=Int.eq_ofNat_of_zero_le (show 0<=a0_1 by omega);obtain ⟨m,rfl⟩:=Int.eq_ofNat_of_zero_le (show 0<=a0_2 by omega);obtain ⟨i,rfl⟩:=Int.eq_ofNat_of_zero_le hp.1;rw [Zu,Zu] at ho;rw [Zu] at hd ho|-;exact aIz.go k a0_0 n m i _ _ A1 A3 c1 c3 l1 l3 d1 d2 o w hfi hev hb rfl rfl (by omega) (by omega) hr1 hc1 hr3 hc3 (by simpa using ha) hs hd hq.1 hq.2 ho
      ·rw [Yb hq] at h;cases h
     ·rw [Yb hs] at h;cases h
  ·rw [Yb hp] at h;exact none3 (aIz.bad1 a0_0 a0_1 a0_2 a2 true true A1 A3 c1 c3 l1 l3 w hfi (fun _ h=>Yf h hp) hr1 hc1 hr3 hc3 (.inr (.inl hp))) h
end Go.Proofs.Xc
end
