-- Joined texts of this work (wip/tools/bundle.py).
import Derived.Test.YtpdakdcmahlghaaGreatBReconUpdates18
set_option maxHeartbeats 4000000
set_option maxRecDepth 100000
set_option linter.unusedVariables false
set_option linter.unusedSimpArgs false
section
namespace Go.Proofs.Xc
open Go.RowKit Go.Proofs.Pw Go.Proofs.Pl Go.Proofs.Pm
attribute [local go_sem] a7z a8z bjz bkz aZz a0z a9z baz
attribute [local go_sem] Oper.semAt_some
def a3z.l (k:Nat) (wb:Int) (first:List (List Int)):List (List Int)->List (List Int)->Option (List (List Int)×Int)
 | [],acc=>some (acc,0)
 |row::rs,acc=>(dotB k wb row first).bind fun t=>a3z.l k wb first rs (acc++ [t.1])
def a3z.is (K:Nat) (T:List (Nat×List Int)):List Int:=(T.take K).map fun x=>(x.1:Int)
def a3z.g (k:Nat) (p:Int) (K M:Nat) (T:List (Nat×List Int)):Option (List (List Int)×Int):=
 if (invF (pbits p) (subM p K M (a3z.is K T))).2<K then none else if aLz.small ((T.take K).map Prod.snd)=true then a3z.l k (pbits p) ((T.take K).map Prod.snd) ((invF (pbits p) (subM p K M (a3z.is K T))).1.map (·.drop K)) [] else none
def a3z.f (k:Nat) (a0_0 a0_1 a0_2:Int) (l1:List (List Int)) (l2:List Bool):Option (List (List Int)×Int):=
 (bEz.f a0_0 a0_1 a0_2 l1).bind fun b=>if b=true then (if l2.length=l1.length then (if (thereF 0 l1 l2).length<a0_1.toNat then some ([],5) else if goodL (pbits a0_0) (len0 (thereF 0 l1 l2)) (thereF 0 l1 l2)=true then a3z.g k a0_0 a0_1.toNat a0_2.toNat (thereF 0 l1 l2) else some ([],1)) else some ([],1)) else some ([],1)
theorem a3z.go (k : Nat) (p : Int) (n mm N0 : Nat) (A1 A2 : Option Addr) (c1 c2 : Nat) (l : List (List Int)) (hv : List Bool) (r1 : List (List Int)) (r2 : Int) (W : World)
  (hf:bEz.f p (n:Int) (mm:Int) l=some true) (h:aDz.f p (n:Int) (mm:Int)=some true) (hN:l.length=N0) (hN2:hv.length=N0) (hnN:N0=n+mm)
  (hr1:Kd.C (dM 5 .u8) W A1 l.length l) (hc1:l.length<=c1) (hr2:Kd.C Kd.bool W A2 hv.length hv)
  (hres:(if (thereF 0 l hv).length<n then some ([],5) else if goodL (pbits p) (len0 (thereF 0 l hv)) (thereF 0 l hv)=true then a3z.g k p n mm (thereF 0 l hv) else some ([],1))=some (r1,r2)):
  Calls Tryz.prog 27 #[.agg #[.int .i64 p, .int .i64 (n:Int), .int .i64 (mm:Int)], .slice A1 N0 c1, .slice A2 N0 c2] W fun e w'=> ∃v,e= .returned (.tuple #[v, .int .i64 r2])/\Kd.S (dM 5 .u8) 34 w' W.heap.size (fun _=>True) v r1/\Below W.heap.size W w':=by
 obtain ⟨p1,p2,k1,k2,m1,m2⟩:=cvz h;have HFI:=Za (fun (w1:World) (hB:Below W.heap.size W w1)=>bEz.calls p (n:Int) (mm:Int) A1 c1 l true w1 (Kd.azz hr1 hB) hc1 hf);rw [hN] at HFI;have HEV:=Za (fun (A':Option Addr) (c':Nat) (b:List Int) (w1:World) (hC:Kd.C (Kd.int .u8) w1 A' b.length b) (hc:b.length<=c')=>cuz.calls p (n:Int) (mm:Int) A' c' b (evB (pbits p) b) w1 hC hc (even_ev p p1 p2 (n:Int) (mm:Int) b));have HINV:=Za (fun (B:Option Addr) (cb:Nat) (is:List Int) (w1:World)=>recon_inverse.ok p n mm B cb is w1 h);have HFD:=Za (dkz.calls p ⟨p1,p2⟩);have HPB:=Za (djz p);have HRES:=Za hres;have HR1:=Za hr1;have HR2:=Za hr2;have HN:=Za hN;have HN2:=Za hN2;have HNN:=Za hnN;have hu:=Tryz.underlying23;have HB:=Za (alz (Zw W.heap.size W) (.cells #[.int .i64 p, .int .i64 (n:Int), .int .i64 (mm:Int)] 23));have HX:=Za (b7z W (.cells #[.int .i64 p, .int .i64 (n:Int), .int .i64 (mm:Int)] 23));have n1:1<=n:=by omega
 have n8:n<=8:=by omega
 have mm4:mm<=4:=by omega
 have mm1:1<=mm:=by omega
 have N12:N0<=12:=by omega
 have N1:1<=N0:=by omega
 have hself:((N0:Int) !=(N0:Int))=false:=by simp
 clear hf h hN hN2 hnN hr1 hc1 hr2 hres p1 p2 k1 k2 m1 m2;refine (callsIn_wide (n:=8)).1 (callsIn_of_wp_marks Tryz.func27 rfl trivial (wpIn_wide.2 ?_) rfl);simp only [Tryz.ntmps27,List.size_toArray,List.length_cons,List.length_nil,Nat.reduceAdd,Nat.reduceSub,Array.replicate_succ,Array.replicate_zero,List.push_toArray,List.append_toArray,List.nil_append,List.cons_append]
 go_wp2_with fail
 generalize W.alloc (.cells #[.int .i64 p, .int .i64 (n:Int), .int .i64 (mm:Int)] 23)=w0 at HB HX|-;refine (HFI.out w0 HB.out).mono ?_;rintro e w1 ⟨rfl,hB1⟩;have HB1:=Za (HB.out.trans (hB1.mono HB.out.size));have HX1:=Za (awz HX.out hB1);clear hB1 HX HB HFI;have hth:=there.calls A1 A2 N0 c1 N0 c2
 go_wp2_with (first|(go_at_call 58;refine (hth _).mono ?_;rintro e w' ⟨rfl,rfl⟩))
 clear hth;obtain ⟨wb,hwb⟩: ∃wb,pbits p=wb:=⟨_,rfl⟩;rw [hwb] at HPB HFD HINV HRES HEV;obtain ⟨T,hT⟩: ∃T,thereF 0 l hv=T:=⟨_,rfl⟩;have HTD:=Za hT;have HTL:=Za (show T.length<=12 by rw [<-hT];have:=thereF_le 0 l hv;have:=HN.out;omega);rw [hT] at HRES;obtain ⟨L0,hL0⟩: ∃L0,len0 T=L0:=⟨_,rfl⟩;have HL0:=Za hL0;rw [hL0] at HRES;have HWBE:=Za hwb;clear hT hL0 hwb;have hX8:(((((w1.alloc (.cells #[.slice none 0 0] 57)).alloc (.cells #[.slice none 0 0] 24)).alloc (.cells #[.bool true] 4)).alloc (.cells #[.slice A1 N0 c1] 24)).alloc (.cells #[.slice A2 N0 c2] 38)).heap[w1.heap.size]?=some (.cells #[.slice none 0 0] 57 (0,0)):=aEz (aEz (aEz (aEz (b7z w1 _) _) _) _) _;have hX9:(((((w1.alloc (.cells #[.slice none 0 0] 57)).alloc (.cells #[.slice none 0 0] 24)).alloc (.cells #[.bool true] 4)).alloc (.cells #[.slice A1 N0 c1] 24)).alloc (.cells #[.slice A2 N0 c2] 38)).heap[w1.heap.size+1]?=some (.cells #[.slice none 0 0] 24 (0,0)):=aEz (aEz (aEz (bBz _ _ _ (by simp)) _) _) _
 have hX10:(((((w1.alloc (.cells #[.slice none 0 0] 57)).alloc (.cells #[.slice none 0 0] 24)).alloc (.cells #[.bool true] 4)).alloc (.cells #[.slice A1 N0 c1] 24)).alloc (.cells #[.slice A2 N0 c2] 38)).heap[w1.heap.size+1+1]?=some (.cells #[.bool true] 4 (0,0)):=aEz (aEz (bBz _ _ _ (by simp)) _) _;have hXs:(((((w1.alloc (.cells #[.slice none 0 0] 57)).alloc (.cells #[.slice none 0 0] 24)).alloc (.cells #[.bool true] 4)).alloc (.cells #[.slice A1 N0 c1] 24)).alloc (.cells #[.slice A2 N0 c2] 38)).heap[w1.heap.size+1+1+1]?=some (.cells #[.slice A1 N0 c1] 24 (0,0)):=aEz (bBz _ _ _ (by simp)) _;have hXh:(((((w1.alloc (.cells #[.slice none 0 0] 57)).alloc (.cells #[.slice none 0 0] 24)).alloc (.cells #[.bool true] 4)).alloc (.cells #[.slice A1 N0 c1] 24)).alloc (.cells #[.slice A2 N0 c2] 38)).heap[w1.heap.size+1+1+1+1]?=some (.cells #[.slice A2 N0 c2] 38 (0,0)):=bBz _ _ _ (by simp);have hB4:Below w1.heap.size w1 (((((w1.alloc (.cells #[.slice none 0 0] 57)).alloc (.cells #[.slice none 0 0] 24)).alloc (.cells #[.bool true] 4)).alloc (.cells #[.slice A1 N0 c1] 24)).alloc (.cells #[.slice A2 N0 c2] 38)):=cLz (cLz (cLz (cLz (alz (Zw _ _) _) (alz (Zw _ _) _)) (alz (Zw _ _) _)) (alz (Zw _ _) _)) (alz (Zw _ _) _)
 have hsz:(((((w1.alloc (.cells #[.slice none 0 0] 57)).alloc (.cells #[.slice none 0 0] 24)).alloc (.cells #[.bool true] 4)).alloc (.cells #[.slice A1 N0 c1] 24)).alloc (.cells #[.slice A2 N0 c2] 38)).heap.size=w1.heap.size+1+1+1+1+1:=by simp
 generalize ((((w1.alloc (.cells #[.slice none 0 0] 57)).alloc (.cells #[.slice none 0 0] 24)).alloc (.cells #[.bool true] 4)).alloc (.cells #[.slice A1 N0 c1] 24)).alloc (.cells #[.slice A2 N0 c2] 38)=w4 at hX8 hX9 hX10 hXs hXh hB4 hsz|-;obtain ⟨b,hb⟩: ∃b,b=w1.heap.size:=⟨_,rfl⟩;have hB4':=HB1.out.trans (hB4.mono HB1.out.size);have HX4:=Za (awz HX1.out hB4);have hWb:W.heap.size<b:=hb▸aPz HX1.out;rw [<-hb] at hX8 hX9 hX10 hXs hXh hsz|-;have HX8:=Za hX8;have HX9:=Za hX9;have HX10:=Za hX10;have HXS:=Za hXs;have HXH:=Za hXh;have HB4:=Za hB4';have HSZ:=Za hsz;have HFS:=Za (show Kd.F (dM 5 .u8) w4 (fun k=> ¬(k=b\/k=b+1\/k=b+1+1)) A1 l.length l from Kd.bZz (Kd.cmz (C_F (Kd.dSz _ (Kd.dhz _)) HR1.out) (fun k hk _=>hB4'.block k hk)) (fun k hk h=>by have:k<W.heap.size:=hk;omega));have HFH:=Za (show Kd.F Kd.bool w4 (fun k=> ¬(k=b\/k=b+1\/k=b+1+1)) A2 hv.length hv from Kd.bZz (Kd.cmz (C_F Kd.heap_bool HR2.out) (fun k hk _=>hB4'.block k hk)) (fun k hk h=>by have:k<W.heap.size:=hk;omega))
 clear hX8 hX9 hX10 hXs hXh hsz hB4 hB4' hb;refine (wpIn_wide (n:=8)).1 ?_
 refine eTz (α:=ThX) rfl (by omega) (gf:=93) (lb:= #[.pointer (some ⟨b+1+1+1,0,none⟩), .pointer (some ⟨b+1+1+1+1,0,none⟩)]) rfl trivial (enters_of Tryz.func93 kr_ rfl)
  (there_seq (b+1+1+1) (b+1+1+1+1) w4.heap.size N0 c1 c2 (fun k=>k=b\/k=b+1\/k=b+1+1) A1 A2 l hv w4 w4 HFS.out HFH.out (Zv _) (Zv _) ⟨Zv _,fun _ _ _=>rfl⟩ HN.out HN2.out (by omega) N1 HXS.out HXH.out ⟨by have:=HSZ.out;omega,by omega⟩ ⟨by have:=HSZ.out;omega,by omega⟩) KpX.trans ?hKb (Zw _ _) (fun _=>rfl)
  (fun pre Wx=> ∃v8 v9,Wx.heap[b]?=some (.cells #[v8] 57 (0,0))/\Wx.heap[b+1]?=some (.cells #[v9] 24 (0,0))/\Wx.heap[b+1+1]?=some (.cells #[.bool (goodL wb L0 (pre.map thK))] 4 (0,0))/\(Kd.int .i64).R 3 Wx w4.heap.size (fun _=>True) v8 ((pre.take n).map fun x=>(x.1:Int))/\slK.R 34 Wx w4.heap.size (fun _=>True) v9 (pre.take n)/\RX w4.heap.size b (b+1) (b+1+1) w4 Wx/\(∀x,x∈pre->ThOk Wx (fun k=> ¬(k=b\/k=b+1\/k=b+1+1)/\k<w4.heap.size) x)/\pre.map thK=T.take pre.length)
  ?hI ?hHd ?h0 (fun x=> { tmps:= #[.agg #[.int .i64 p, .int .i64 (n:Int), .int .i64 (mm:Int)], .slice A1 N0 c1, .slice A2 N0 c2, .pointer (some ⟨W.heap.size,0,none⟩),undef,undef, .slice none 0 0, .int .i64 0, .pointer (some ⟨b,0,none⟩), .pointer (some ⟨b+1,0,none⟩), .pointer (some ⟨b+1+1,0,none⟩), .int .i64 (x.1:Int), .slice x.2.1 x.2.2.2.length x.2.2.1,undef,undef,undef,undef,undef,undef,undef, .agg #[.int .i64 p, .int .i64 (n:Int), .int .i64 (mm:Int)], .slice A1 N0 c1, .bool true, .bool false, .bool false, .slice A2 N0 c2, .int .i64 (N0:Int), .slice A1 N0 c1, .int .i64 (N0:Int), .bool false, .bool false, .slice A1 N0 c1, .slice A2 N0 c2, .func (.func 93) #[] #[.pointer (some ⟨b+1+1+1,0,none⟩), .pointer (some ⟨b+1+1+1+1,0,none⟩)], .int .i64 (x.1:Int), .slice x.2.1 x.2.2.2.length x.2.2.1,undef,undef,undef,undef,undef,undef,undef,undef,undef,undef,undef,undef,undef,undef,undef,undef,undef,undef,undef,undef,undef,undef,undef,undef,undef,undef,undef,undef,undef,undef,undef,undef,undef,undef,undef,undef,undef,undef,undef,undef,undef,undef,undef,undef,undef,undef,undef,undef,undef,undef,undef,undef,undef,undef,undef,undef,undef,undef,undef,undef,undef,undef,undef,undef,undef,undef,undef],defers:= [] }) ?assign ?body ?done
 case hKb=>exact fun Wx l o o' hl ho _=>⟨(grownBy_putObj' Wx l o').size,fun k hk _=>World.putObj_heap_other (by omega)⟩
 case hI=>
  rintro s X Y r ⟨v8,v9,h1,h2,h3,h4,h5,h6,h7,h8⟩ hg hr;have hr': ∀q,r=some q-> ∃o:Obj,X.heap[q]?=some o/\o.isCells=false:=fun q e=>(hr q e).2
  refine ⟨v8,v9,(grownBy_keeps_cells hg hr' h1 rfl).trans h1,(grownBy_keeps_cells hg hr' h2 rfl).trans h2,(grownBy_keeps_cells hg hr' h3 rfl).trans h3,e0z h4 hg hr',slK_noncells h5 hg hr',⟨hg.os.trans h6.os,hg.tape.trans h6.tape,hg.output.trans h6.output,Zt h6.size hg.size,fun k hk q1 q2 q3=>(hg.block k (Zp hk h6.size) (fun e=>by have:=(hr k e.symm).1;omega)).trans (h6.block k hk q1 q2 q3),fun k o ho hn=>(hg.block k (Zp (aPz ho) h6.size) (fun e=>by have:=(hr k e.symm).1;have:=aPz ho;omega)).trans (h6.walks k o ho hn)⟩,fun x hx=>(h7 x hx).move (fun k hk _=>hg.block k (Zp hk.2 h6.size) (fun e=>by have:=(hr k e.symm).1;have:=hk.2;omega)),h8⟩
 case hHd=>
  rintro m x - X Y r ⟨h0,h1,h2⟩ hg hr;exact ⟨h0,h1,Kd.cmz h2 (fun k hk hlt=>hg.block k hlt (fun e=>by have:=(hr k e.symm).1;have:=hk.2;omega))⟩
 case h0=>exact ⟨_,_,HX8.out,HX9.out,HX10.out,(by rw [List.take_nil];exact Kd.R_nil _ _ _ _ _),(by rw [List.take_nil];exact Kd.R_nil _ _ _ _ _),RX.refl _ _ _ _ _,fun _ h=>by simp at h,rfl⟩
 case assign=>
  intro l' x Wx K hK
  gi_wp2
  exact hK
 case body=>
  rintro l' pre ⟨i,A',c',bb⟩ Wx ⟨v8,v9,h1,h2,h3,h4,h5,h6,h7,h8⟩ ⟨hx0,hx1,hx2⟩ hlen;dsimp only at hx0 hx1 hx2|-;rw [HTD.out] at hx0 hlen;obtain ⟨nb,hnb⟩: ∃nb,bb.length=nb:=⟨_,rfl⟩;have HNB:=Za hnb;rw [hnb];have HXX:=Za (show ThOk Wx (fun k=> ¬(k=b\/k=b+1\/k=b+1+1)/\k<w4.heap.size) ((i,A',c',bb):ThX) from ⟨hx1,hx2⟩);have HSE:=Za (show slE ((i,A',c',bb):ThX)= .slice A' nb c' by rw [<-hnb];rfl)
  have HTK:=Za (show (pre++ [((i,A',c',bb):ThX)]).map thK=T.take (pre++ [((i,A',c',bb):ThX)]).length by
   rw [List.map_append,h8,List.length_append,List.length_singleton,List.take_add_one,hx0]
   rfl)
  have HX0:=Za (show∃x0:ThX,((pre++ [((i,A',c',bb):ThX)]).take n)[0]?=some x0/\x0.2.2.2.length=L0 by
   obtain ⟨x0,hx00⟩: ∃x0,(pre++ [((i,A',c',bb):ThX)])[0]?=some x0:=⟨_,Zf (by simp)⟩;refine ⟨x0,by rw [List.getElem?_take];rw [Ya (by omega)];exact hx00,?_⟩;have e1:((pre++ [((i,A',c',bb):ThX)]).map thK)[0]?=some (thK x0):=by rw [List.getElem?_map,hx00];rfl
   rw [HTK.out,List.getElem?_take,Ya (by simp)] at e1;have e2:=HL0.out;unfold len0 at e2;rw [Zm,e1] at e2
   exact e2)
  have HPL:=Za (show pre.length<12 by have:=HTL.out;omega);obtain ⟨A8,c8,rfl⟩:=Kd.aRz h4;obtain ⟨A9,c9,rfl⟩:=Kd.aRz h5;have HNE:=Za (own_ne (Kd.dNz h5) (Kd.dNz h4) (by decide));have hb8:=Kd.bIz h4;have hb9:=Kd.bIz h5;have hl8:=Kd.R_lt h4;have hl9:=Kd.R_lt h5;have HTY8:=Za (Kd.dNz h4);have HSX:=Za (show w4.heap.size<=Wx.heap.size from h6.size);have HXP:=Za (h6.blk HX4.out (by have:=HSZ.out;omega) (by omega) (by omega) (by omega));have HH6:=Za h6;have HH7:=Za h7;have q1:Wx.cell? ⟨W.heap.size,1,none⟩=some (.int .i64 (n:Int)):=(aaz HXP.out 1).trans rfl;obtain ⟨m9,hm9⟩: ∃m,(pre.take n).length=m:=⟨_,rfl⟩;have hm8:((pre.take n).map fun x=>(x.1:Int)).length=m9:=by rw [List.length_map];exact hm9
  have HMIN:=Za (show m9=min n pre.length by rw [<-hm9,List.length_take]);rw [hm8] at h1 h4 hb8 hl8 HTY8 HNE;rw [hm9] at h2 h5 hb9 hl9 HNE;have HR8:=Za h4;have HR9:=Za h5;have HK3:=Za h3;have hc8:Wx.cell? ⟨b,0,none⟩=some (.slice A8 m9 c8):=(aaz h1 0).trans rfl;have hc9:Wx.cell? ⟨b+1,0,none⟩=some (.slice A9 m9 c9):=(aaz h2 0).trans rfl;have HNB8:=Za (show some b≠(Value.slice A8 m9 c8).ownBlock/\some (b+1)≠(Value.slice A8 m9 c8).ownBlock/\some (b+1+1)≠(Value.slice A8 m9 c8).ownBlock from ⟨fun e=>by have:=hb8 _ e.symm;have:=HSZ.out;omega,fun e=>by have:=hb8 _ e.symm;have:=HSZ.out;omega,fun e=>by have:=hb8 _ e.symm;have:=HSZ.out;omega⟩);have HNB9:=Za (show some b≠(Value.slice A9 m9 c9).ownBlock/\some (b+1)≠(Value.slice A9 m9 c9).ownBlock/\some (b+1+1)≠(Value.slice A9 m9 c9).ownBlock from ⟨fun e=>by have:=hb9 _ e.symm;have:=HSZ.out;omega,fun e=>by have:=hb9 _ e.symm;have:=HSZ.out;omega,fun e=>by have:=hb9 _ e.symm;have:=HSZ.out;omega⟩)
  have HNB8X:=Za (show some Wx.heap.size≠(Value.slice A8 m9 c8).ownBlock/\some (Wx.heap.size+1)≠(Value.slice A8 m9 c8).ownBlock from ⟨fun e=>by have:=hl8 _ e.symm;omega,fun e=>by have:=hl8 _ e.symm;omega⟩);have HP8:=Za (show ((pre.take n).map fun x=>(x.1:Int)).length<=12/\(pre.take n).length<=12 by rw [hm8,hm9];have:=HPL.out;have:=HMIN.out;omega);have HL9:=Za hl9;have HB9:=Za hb9;have HB8:=Za hb8;have HH1:=Za h1;have HH2:=Za h2;have hmo:Tryz.prog.follows .mixedOrders=true:=by kernel_rfl
  clear hx0 hx1 hx2 hnb h1 h2 h3 h4 h5 h6 h7 h8 hb8 hb9 hl8 hl9 hm8 hm9 hlen;by_cases hlt:pre.length<n
  ·have hj:((m9:Int)<(n:Int)):=by have:=HMIN.out;omega
   have HTE:=Za (show (pre++ [((i,A',c',bb):ThX)]).take n=pre.take n++ [((i,A',c',bb):ThX)] by
    rw [List.take_of_length_le (by simp;omega),List.take_of_length_le (l:=pre) (by omega)])
   have HQF := Za (show ∀ (w10 w11 : World) (v44 v48 : Value), Wx.grownBy w10 (Value.slice A8 m9 c8).ownBlock -> (Kd.int .i64).R 3 w10 w4.heap.size (fun _ => True) v44 ((pre.take n).map (fun x => (x.1 : Int)) ++ [(i : Int)]) -> (v44.ownBlock = (Value.slice A8 m9 c8).ownBlock \/ ∃ q, v44.ownBlock = some q /\ Wx.heap.size <= q) ->
     slK.R 34 w11 w4.heap.size (fun _=>True) v48 (pre.take n++ [((i,A',c',bb):ThX)])->w10.grownBy w11 (Value.slice A9 m9 c9).ownBlock->
     w11.cell? ⟨b,0,none⟩=some (.slice A8 m9 c8)/\w11.frozen? ⟨b,0,none⟩=false/\w11.cell? ⟨b+1,0,none⟩=some (.slice A9 m9 c9)/\(w11.setCell ⟨b,0,none⟩ v44).cell? ⟨b+1,0,none⟩=some (.slice A9 m9 c9)/\(w11.setCell ⟨b,0,none⟩ v44).frozen? ⟨b+1,0,none⟩=false/\(fun wy=> ∃y8 y9,wy.heap[b]?=some (.cells #[y8] 57 (0,0))/\wy.heap[b+1]?=some (.cells #[y9] 24 (0,0))/\wy.heap[b+1+1]?=some (.cells #[.bool (goodL wb L0 (pre.map thK))] 4 (0,0))/\(Kd.int .i64).R 3 wy w4.heap.size (fun _=>True) y8 (((pre++ [((i,A',c',bb):ThX)]).take n).map fun x=>(x.1:Int))/\slK.R 34 wy w4.heap.size (fun _=>True) y9 ((pre++ [((i,A',c',bb):ThX)]).take n)/\RX w4.heap.size b (b+1) (b+1+1) Wx wy) ((w11.setCell ⟨b,0,none⟩ v44).setCell ⟨b+1,0,none⟩ v48) by
    intro w10 w11 v44 v48 f1 f2 f3 k1 k3;have g1:=(k3.block b (Zp (aPz HH1.out) f1.size) HNB9.out.1).trans ((f1.block b (aPz HH1.out) HNB8.out.1).trans HH1.out);have g2:=(k3.block (b+1) (Zp (aPz HH2.out) f1.size) HNB9.out.2.1).trans ((f1.block (b+1) (aPz HH2.out) HNB8.out.2.1).trans HH2.out);have g3:=(k3.block (b+1+1) (Zp (aPz HK3.out) f1.size) HNB9.out.2.2).trans ((f1.block (b+1+1) (aPz HK3.out) HNB8.out.2.2).trans HK3.out);have hs1: ∀k,k≠b->(w11.setCell ⟨b,0,none⟩ v44).heap[k]?=w11.heap[k]?:=fun k hk=>Below.heap_setCell w11 ⟨b,0,none⟩ v44 k hk
    have hs2: ∀k,k≠b+1->((w11.setCell ⟨b,0,none⟩ v44).setCell ⟨b+1,0,none⟩ v48).heap[k]?=(w11.setCell ⟨b,0,none⟩ v44).heap[k]?:=fun k hk=>Below.heap_setCell _ ⟨b+1,0,none⟩ v48 k hk
    have g2':(w11.setCell ⟨b,0,none⟩ v44).heap[b+1]?=some (.cells #[.slice A9 m9 c9] 24 (0,0)):=(hs1 (b+1) (by omega)).trans g2;have h9w:slK.R 34 w10 w4.heap.size (fun _=>True) (.slice A9 m9 c9) (pre.take n):=slK_grow HR9.out f1 HNE.out
    have h44:=int_grow f2 k3 (fun k hk he=>by
     rcases f3 with f3|⟨q,f3,f4⟩
     ·exact HNE.out k he.symm (hk.symm.trans f3)
     ·rw [f3] at hk;cases hk
      have:=HL9.out _ he.symm
      omega)
    refine ⟨(aaz g1 0).trans rfl,a6z g1 0,(aaz g2 0).trans rfl,(aaz g2' 0).trans rfl,a6z g2' 0,v44,v48,(hs2 b (by omega)).trans (cqz g1 0 v44 rfl),cqz g2' 0 v48 rfl,(hs2 _ (by omega)).trans ((hs1 _ (by omega)).trans g3),?_,?_,?_⟩
    ·rw [HTE.out,List.map_append];exact Kd.aJz (Kd.cyz (Kd.bTz h44) (fun k hk=>(hs2 k (by have:=hk.2.1;have:=HSZ.out;omega)).trans (hs1 k (by have:=hk.2.1;have:=HSZ.out;omega)))) (fun _ _=>trivial)
    ·rw [HTE.out];exact Kd.aJz (Kd.cyz (Kd.bTz k1) (fun k hk=>(hs2 k (by have:=hk.2.1;have:=HSZ.out;omega)).trans (hs1 k (by have:=hk.2.1;have:=HSZ.out;omega)))) (fun _ _=>trivial)
    ·refine (((RX.eUz f1 HSX.out (fun q hq=>⟨HB8.out q hq,?_⟩)).trans (RX.eUz k3 (Zt HSX.out f1.size) (fun q hq=>⟨HB9.out q hq,?_⟩))).trans (RX.of_set g1 (.inl rfl))).trans (RX.of_set g2' (.inr (.inl rfl)))
     ·obtain ⟨cells,hc⟩:=HTY8.out q hq;exact ⟨cells,_,_,hc⟩
     ·obtain ⟨cells,hc⟩:=Kd.dNz h9w q hq
      exact ⟨cells,_,_,hc⟩)
   clear HTE
   gi_wp2
   refine startIn_ (m:=10) (S:=fun w'=>w'.cell? ⟨b,0,none⟩=some (.slice A8 m9 c8)/\w'.cell? ⟨b+1,0,none⟩=some (.slice A9 m9 c9)) (ds:= [8,9]) (bA 10 0) kr_ rfl rfl kr_ (by rintro ⟨_,_,h⟩;exact h) ⟨hc8,hc9⟩ (fun hHeld=> ?_);refine pu_ 1 42 2 ?_;refine pu_ 5 46 34 ?_;refine tk_ 0 41 35 hHeld ?_;refine tk_ 4 45 51 hHeld ?_;refine join_ (σ:=Nat×Nat×Value) 3 (bA 10 127) (fun s=> [(43, .slice (some ⟨s.1,0,none⟩) 1 1),(44,s.2.2),(47, .slice (some ⟨s.2.1,0,none⟩) 1 1)]) (fun s w'=>Wx.grownBy w' (Value.slice A8 m9 c8).ownBlock/\(Kd.int .i64).R 3 w' w4.heap.size (fun _=>True) s.2.2 ((pre.take n).map (fun x=>(x.1:Int))++ [(i:Int)])/\(s.2.2.ownBlock=(Value.slice A8 m9 c8).ownBlock\/ ∃q,s.2.2.ownBlock=some q/\Wx.heap.size<=q)/\w'.heap[s.2.1]?=some (.cells #[.slice A' nb c'] 34 (0,0))/\Wx.heap.size<=s.2.1) ?_ ?_;rotate_left
   ·intro hCont;refine two_ (i:=2) (j:=6) (Ni:=some 43) (Nj:=some 47) (bA 10 55) (bA 10 115) rfl rfl rfl rfl kr_ (by decide) (by decide) (fun K hK=> ?_) (fun K hK=> ?_)
    ·skip
     refine cez (w1:= ?_) (v:= ?_) (by rfl) rfl ?_ ?_;rotate_left 2
     ·go_simp;constructor
      ·rfl
      ·rfl
     refine hK.out _ _ ⟨cpast _ (hc8),cpast _ (hc9)⟩ (fun hHeld=> ?_);clear hK K;refine norm_ (a':= ?_) ?_ ?_;rotate_left
     ·show Act.put _ (some 43) _=_;simp only [Act.put,Zg,Zh,Zi,i64_w,i32_w];rfl
     refine two_ (i:=3) (j:=6) (Ni:=some 44) (Nj:=some 47) (bA 10 63) (bA 10 119) rfl rfl rfl rfl kr_ (by decide) (by decide) (fun K hK=> ?_) (fun K hK=> ?_)
     ·skip
      refine Kd.daz (Kd.int .i64) (Rr:=fun (y:Int) cs=>cs= [Value.int .i64 y]) (w0:=(Wx.alloc (.cells #[.int .i64 (i:Int)] 3)).drew) w4.heap.size rfl (.tmp 41) (.tmp 43) 57 3 (.int .i64 0) 8 rfl Tryz.underlying57 kr_ rfl (by decide) (by decide) (.slice A8 m9 c8) ((pre.take n).map fun x=>(x.1:Int)) [(i:Int)] (some ⟨Wx.heap.size,0,none⟩) 1 1 (fun _=>True) (fun _=>False) rfl rfl (Kd.c1z (Kd.c7z (HR8.out) _)) (rr_one (Value.int .i64) (heap_alloc_new Wx (.cells #[.int .i64 (i:Int)] 3))) (fun _ _ h=>h) (fun _ h=>h.elim) (fun _ _=>trivial) (Zw _ _) (by have:=HSX.out;simp;omega) (by have:=HP8.out;simp only [List.length_map] at this|-;omega) ?_;intro v44 w44 g1 g2 g3 g4;refine hK.out _ _ ⟨cgrow (show ((Wx.alloc (.cells #[.int .i64 (i:Int)] 3)).drew).cell? ⟨b,0,none⟩=some (.slice A8 m9 c8) from cpast _ (hc8)) g3 HNB8.out.1,cgrow (show ((Wx.alloc (.cells #[.int .i64 (i:Int)] 3)).drew).cell? ⟨b+1,0,none⟩=some (.slice A9 m9 c9) from cpast _ (hc9)) g3 HNB8.out.2.1⟩ (fun hHeld=> ?_)
      clear hK K;refine norm_ (a':= ?_) ?_ ?_;rotate_left
      ·show Act.put _ (some 44) _=_;simp only [Act.put,Zg,Zh,Zi,i64_w,i32_w];rfl
      refine one_ (i:=6) (N:=some 47) (bA 10 127) rfl rfl kr_ (by decide) (fun K hK=> ?_);refine cez (w1:= ?_) (v:= ?_) (by rfl) rfl ?_ ?_;rotate_left 2
      ·go_simp;constructor
       ·rfl
       ·rfl
      refine hK.out _ _ ⟨cpast _ hHeld.1,cpast _ hHeld.2⟩ (fun hHeld=> ?_);clear hK K;refine norm_ (a':= ?_) ?_ ?_;rotate_left
      ·show Act.put _ (some 47) _=_;simp only [Act.put,Zg,Zh,Zi,i64_w,i32_w];rfl
      exact norm_ (by simp only [putAll,Act.put,Zg,Zh,Zi]) (hCont (Wx.heap.size,w44.heap.size,v44) _ ⟨gall (gtr (gdr (gall (World.grownBy.refl Wx _) (.cells #[.int .i64 (i:Int)] 3))) g3) (.cells #[.slice A' nb c'] 34),Kd.c7z g1 _,g4.imp id (fun ⟨q,e1,e2⟩=>⟨q,e1,Zt (by simp) e2⟩),heap_alloc_new w44 (.cells #[.slice A' nb c'] 34),Zt (by simp) g3.size⟩)
     ·skip
      refine cez (w1:= ?_) (v:= ?_) (by rfl) rfl ?_ ?_;rotate_left 2
      ·go_simp;constructor
       ·rfl
       ·rfl
      refine hK.out _ _ ⟨cpast _ (cpast _ (hc8)),cpast _ (cpast _ (hc9))⟩ (fun hHeld=> ?_);clear hK K;refine norm_ (a':= ?_) ?_ ?_;rotate_left
      ·show Act.put _ (some 47) _=_;simp only [Act.put,Zg,Zh,Zi,i64_w,i32_w];rfl
      refine one_ (i:=3) (N:=some 44) (bA 10 127) rfl rfl kr_ (by decide) (fun K hK=> ?_);refine Kd.daz (Kd.int .i64) (Rr:=fun (y:Int) cs=>cs= [Value.int .i64 y]) (w0:=((Wx.alloc (.cells #[.int .i64 (i:Int)] 3)).alloc (.cells #[.slice A' nb c'] 34)).drew) w4.heap.size rfl (.tmp 41) (.tmp 43) 57 3 (.int .i64 0) 8 rfl Tryz.underlying57 kr_ rfl (by decide) (by decide) (.slice A8 m9 c8) ((pre.take n).map fun x=>(x.1:Int)) [(i:Int)] (some ⟨Wx.heap.size,0,none⟩) 1 1 (fun _=>True) (fun _=>False) rfl rfl (Kd.c1z (Kd.c7z (Kd.c7z (HR8.out) _) _)) (rr_one (Value.int .i64) (aEz (heap_alloc_new Wx (.cells #[.int .i64 (i:Int)] 3)) (.cells #[.slice A' nb c'] 34))) (fun _ _ h=>h) (fun _ h=>h.elim) (fun _ _=>trivial) (Zw _ _) (by have:=HSX.out;simp;omega) (by have:=HP8.out;simp only [List.length_map] at this|-;omega) ?_;intro v44 w44 g1 g2 g3 g4;refine hK.out _ _ ⟨cgrow (show (((Wx.alloc (.cells #[.int .i64 (i:Int)] 3)).alloc (.cells #[.slice A' nb c'] 34)).drew).cell? ⟨b,0,none⟩=some (.slice A8 m9 c8) from cpast _ (cpast _ (hc8))) g3 HNB8.out.1,cgrow (show (((Wx.alloc (.cells #[.int .i64 (i:Int)] 3)).alloc (.cells #[.slice A' nb c'] 34)).drew).cell? ⟨b+1,0,none⟩=some (.slice A9 m9 c9) from cpast _ (cpast _ (hc9))) g3 HNB8.out.2.1⟩ (fun hHeld=> ?_)
      clear hK K;refine norm_ (a':= ?_) ?_ ?_;rotate_left
      ·show Act.put _ (some 44) _=_;simp only [Act.put,Zg,Zh,Zi,i64_w,i32_w];rfl
      exact norm_ (by simp only [putAll,Act.put,Zg,Zh,Zi]) (hCont (Wx.heap.size,Wx.heap.size+1,v44) _ ⟨gtr (gdr (gall (gall (World.grownBy.refl Wx _) (.cells #[.int .i64 (i:Int)] 3)) (.cells #[.slice A' nb c'] 34))) g3,g1,g4.imp id (fun ⟨q,e1,e2⟩=>⟨q,e1,Zt (by simp;omega) e2⟩),(g3.block _ (by simp) HNB8X.out.2).trans (bBz (Wx.alloc (.cells #[.int .i64 (i:Int)] 3)) (.cells #[.slice A' nb c'] 34) _ (by simp)),(show Wx.heap.size<=Wx.heap.size+1 by omega)⟩)
    ·skip
     refine cez (w1:= ?_) (v:= ?_) (by rfl) rfl ?_ ?_;rotate_left 2
     ·go_simp;constructor
      ·rfl
      ·rfl
     refine hK.out _ _ ⟨cpast _ (hc8),cpast _ (hc9)⟩ (fun hHeld=> ?_);clear hK K;refine norm_ (a':= ?_) ?_ ?_;rotate_left
     ·show Act.put _ (some 47) _=_;simp only [Act.put,Zg,Zh,Zi,i64_w,i32_w];rfl
     refine one_ (i:=2) (N:=some 43) (bA 10 119) rfl rfl kr_ (by decide) (fun K hK=> ?_);refine cez (w1:= ?_) (v:= ?_) (by rfl) rfl ?_ ?_;rotate_left 2
     ·go_simp;constructor
      ·rfl
      ·rfl
     refine hK.out _ _ ⟨cpast _ (cpast _ (hc8)),cpast _ (cpast _ (hc9))⟩ (fun hHeld=> ?_);clear hK K;refine norm_ (a':= ?_) ?_ ?_;rotate_left
     ·show Act.put _ (some 43) _=_;simp only [Act.put,Zg,Zh,Zi,i64_w,i32_w];rfl
     refine one_ (i:=3) (N:=some 44) (bA 10 127) rfl rfl kr_ (by decide) (fun K hK=> ?_);refine Kd.daz (Kd.int .i64) (Rr:=fun (y:Int) cs=>cs= [Value.int .i64 y]) (w0:=((Wx.alloc (.cells #[.slice A' nb c'] 34)).alloc (.cells #[.int .i64 (i:Int)] 3)).drew) w4.heap.size rfl (.tmp 41) (.tmp 43) 57 3 (.int .i64 0) 8 rfl Tryz.underlying57 kr_ rfl (by decide) (by decide) (.slice A8 m9 c8) ((pre.take n).map fun x=>(x.1:Int)) [(i:Int)] (some ⟨Wx.heap.size+1,0,none⟩) 1 1 (fun _=>True) (fun _=>False) rfl rfl (Kd.c1z (Kd.c7z (Kd.c7z (HR8.out) _) _)) (rr_one (Value.int .i64) (bBz (Wx.alloc (.cells #[.slice A' nb c'] 34)) (.cells #[.int .i64 (i:Int)] 3) _ (by simp))) (fun _ _ h=>h) (fun _ h=>h.elim) (fun _ _=>trivial) (Zw _ _) (by have:=HSX.out;simp;omega) (by have:=HP8.out;simp only [List.length_map] at this|-;omega) ?_;intro v44 w44 g1 g2 g3 g4;refine hK.out _ _ ⟨cgrow (show (((Wx.alloc (.cells #[.slice A' nb c'] 34)).alloc (.cells #[.int .i64 (i:Int)] 3)).drew).cell? ⟨b,0,none⟩=some (.slice A8 m9 c8) from cpast _ (cpast _ (hc8))) g3 HNB8.out.1,cgrow (show (((Wx.alloc (.cells #[.slice A' nb c'] 34)).alloc (.cells #[.int .i64 (i:Int)] 3)).drew).cell? ⟨b+1,0,none⟩=some (.slice A9 m9 c9) from cpast _ (cpast _ (hc9))) g3 HNB8.out.2.1⟩ (fun hHeld=> ?_)
     clear hK K;refine norm_ (a':= ?_) ?_ ?_;rotate_left
     ·show Act.put _ (some 44) _=_;simp only [Act.put,Zg,Zh,Zi,i64_w,i32_w];rfl
     exact norm_ (by simp only [putAll,Act.put,Zg,Zh,Zi]) (hCont (Wx.heap.size+1,Wx.heap.size,v44) _ ⟨gtr (gdr (gall (gall (World.grownBy.refl Wx _) (.cells #[.slice A' nb c'] 34)) (.cells #[.int .i64 (i:Int)] 3))) g3,g1,g4.imp id (fun ⟨q,e1,e2⟩=>⟨q,e1,Zt (by simp;omega) e2⟩),(g3.block _ (by simp;omega) HNB8X.out.1).trans (aEz (heap_alloc_new Wx (.cells #[.slice A' nb c'] 34)) _),Zv _⟩)
   rintro ⟨m2,m6,v44⟩ w10 ⟨f1,f2,f3,f4,f5⟩;dsimp only at f2 f3 f4 f5|-;obtain ⟨A44,c44,rfl⟩:=Kd.aRz f2;obtain ⟨n44,hn44⟩: ∃m,((pre.take n).map (fun x=>(x.1:Int))++ [(i:Int)]).length=m:=⟨_,rfl⟩;rw [hn44] at f2 f3|-;clear hn44;have hHeld:w10.cell? ⟨b,0,none⟩=some (.slice A8 m9 c8)/\w10.cell? ⟨b+1,0,none⟩=some (.slice A9 m9 c9):=⟨cgrow hc8 f1 HNB8.out.1,cgrow hc9 f1 HNB8.out.2.1⟩;have HR9':=Za (slK_grow HR9.out f1 HNE.out);refine norm_ (a':= ?_) ?_ ?_;rotate_left
   ·simp only [putAll,Act.put,Zg,Zh,Zi];rfl
   refine one_ (i:=7) (N:=some 48) (bA 10 255) rfl rfl kr_ (by decide) (fun K hK=> ?_);refine Kd.daz slK (Rr:=fun (y:ThX) cs=>cs= [slE y]) (w0:=w10) w4.heap.size rfl (.tmp 45) (.tmp 47) 24 34 (.slice none 0 0) 24 rfl Tryz.underlying24 kr_ rfl (by decide) (by decide) (.slice A9 m9 c9) (pre.take n) [(i,A',c',bb)] (some ⟨m6,0,none⟩) 1 1 (fun _=>True) (fun _=>False) rfl rfl HR9'.out (rr_one slE (x:=(i,A',c',bb)) (HSE.out.symm▸f4)) (fun _ _ h=>h) (fun _ h=>h.elim) (fun _ _=>trivial) (Zw _ _) (Zt HSX.out f1.size) (by have:=HP8.out;simp only [List.length_map] at this|-;omega) ?_;intro v48 w11 k1 k2 k3 k4;obtain ⟨A48,c48,rfl⟩:=Kd.aRz k1;generalize (pre.take n++ [((i,A',c',bb):ThX)]).length=n48 at k1|-;obtain ⟨r1,r2,r3,r4,r5,r6⟩:=HQF.out w10 w11 _ _ f1 f2 f3 k1 k3;have R6:=Za r6;clear r6;refine hK.out _ _ ⟨r1,r3⟩ (fun hHeld=> ?_);clear hK K;refine norm_ (a':= ?_) ?_ ?_;rotate_left
   ·show Act.put _ (some 48) _=_;simp only [Act.put,Zg,Zh,Zi,i64_w,i32_w];rfl
   refine last_ (i:=8) (N:=none) (bA 10 511) rfl rfl kr_ (by decide) (fun K hK=> ?_);refine skip_ (w1:= ?_) (by rfl) rfl ?_ ?_;rotate_left
   ·go_simp;rfl
   refine hK.out _ _ ?_;clear hK K;refine last_ (i:=9) (N:=none) (bA 10 1023) rfl rfl kr_ (by decide) (fun K hK=> ?_);refine skip_ (w1:= ?_) (by rfl) rfl ?_ ?_;rotate_left
   ·go_simp;rfl
   refine hK.out _ _ ?_;clear hK K;refine done_ kr_ ?_;have HQ:=Za R6.out
   try dsimp only at HQ
   generalize (w11.setCell ⟨b,0,none⟩ (.slice A44 n44 c44)).setCell ⟨b+1,0,none⟩ (.slice A48 n48 c48)=wy at HQ|-;clear R6;obtain ⟨y8,y9,t1,t2,t3,t4,t5,t6⟩:=HQ.out;obtain ⟨Y9,d9,rfl⟩:=Kd.aRz t5;obtain ⟨x0,hx00,hxL⟩:=HX0.out;obtain ⟨ad0,rfl,hcell0⟩:=slK_cell0 t5 hx00;rw [show slE x0= .slice x0.2.1 L0 x0.2.2.1 by unfold slE;rw [hxL]] at hcell0;obtain ⟨my,hmy⟩: ∃m,((pre++ [((i,A',c',bb):ThX)]).take n).length=m:=⟨_,rfl⟩;have hmy0:0<my:=by rw [<-hmy];exact (Zk hx00).1
   have hmy1:(0:Int)<(my:Int):=by omega
   rw [hmy] at t2 t5;have e9:wy.cell? ⟨b+1,0,none⟩=some (.slice (some ad0) my d9):=(aaz t2 0).trans rfl;have e10:wy.cell? ⟨b+1+1,0,none⟩=some (.bool (goodL wb L0 (pre.map thK))):=(aaz t3 0).trans rfl;have e10f:=a6z t3 0;have hXy:=t6.blk HXP.out (by have:=HSZ.out;omega) (by omega) (by omega) (by omega);have q0:wy.cell? ⟨W.heap.size,0,none⟩=some (.int .i64 p):=(aaz hXy 0).trans rfl;have q1:wy.cell? ⟨W.heap.size,1,none⟩=some (.int .i64 (n:Int)):=(aaz hXy 1).trans rfl;have q2:wy.cell? ⟨W.heap.size,2,none⟩=some (.int .i64 (mm:Int)):=(aaz hXy 2).trans rfl;have hxy:=HXX.out.move (W1:=wy) (fun k hk _=>t6.block k hk.2 (fun e=>hk.1 (.inl e)) (fun e=>hk.1 (.inr (.inl e))) (fun e=>hk.1 (.inr (.inr e))));have HEVy:=Za (HEV.out A' c' bb wy (Kd.F_now hxy.2) HXX.out.1);rw [HNB.out] at HEVy
   have HFIN := Za (show ∀ (w13 : World) (gd' : Bool), Below wy.heap.size wy w13 -> gd' = goodL wb L0 ((pre ++ [((i, A', c', bb) : ThX)]).map thK) -> w13.cell? ⟨b + 1, 0, none⟩ = some (.slice (some ad0) my d9) /\ w13.cell? ad0 = some (.slice x0.2.1 L0 x0.2.2.1) /\ w13.cell? ⟨b + 1 + 1, 0, none⟩ = some (.bool (goodL wb L0 (pre.map thK))) /\ w13.frozen? ⟨b + 1 + 1, 0, none⟩ = false /\
     KeepsFrom w4.heap.size Wx (w13.setCell ⟨b+1+1,0,none⟩ (.bool gd'))/\KpX w4.heap.size (fun k=>k=b\/k=b+1\/k=b+1+1) Wx (w13.setCell ⟨b+1+1,0,none⟩ (.bool gd'))/\(fun pre Wx=> ∃v8 v9,Wx.heap[b]?=some (.cells #[v8] 57 (0,0))/\Wx.heap[b+1]?=some (.cells #[v9] 24 (0,0))/\Wx.heap[b+1+1]?=some (.cells #[.bool (goodL wb L0 (pre.map thK))] 4 (0,0))/\(Kd.int .i64).R 3 Wx w4.heap.size (fun _=>True) v8 ((pre.take n).map fun x=>(x.1:Int))/\slK.R 34 Wx w4.heap.size (fun _=>True) v9 (pre.take n)/\RX w4.heap.size b (b+1) (b+1+1) w4 Wx/\(∀x,x∈pre->ThOk Wx (fun k=> ¬(k=b\/k=b+1\/k=b+1+1)/\k<w4.heap.size) x)/\pre.map thK=T.take pre.length) (pre++ [((i,A',c',bb):ThX)]) (w13.setCell ⟨b+1+1,0,none⟩ (.bool gd')) by
    intro w13 gd' hb13 hgd;have hN13:w4.heap.size<=wy.heap.size:=Zt HSX.out t6.size;have u1:=awz t1 hb13;have u2:=awz t2 hb13;have u3:=awz t3 hb13;have hsc: ∀k,k≠b+1+1->(w13.setCell ⟨b+1+1,0,none⟩ (.bool gd')).heap[k]?=w13.heap[k]?:=fun k hk=>Below.heap_setCell w13 ⟨b+1+1,0,none⟩ (.bool gd') k hk
    have hRX:RX w4.heap.size b (b+1) (b+1+1) Wx (w13.setCell ⟨b+1+1,0,none⟩ (.bool gd')):=(t6.trans (RX.of_below hb13 hN13)).trans (RX.of_set u3 (.inr (.inr rfl)));have hR4:=HH6.out.trans hRX;refine ⟨(aaz u2 0).trans rfl,aUz hb13 hcell0,(aaz u3 0).trans rfl,a6z u3 0,⟨hRX.size,fun k o _ ho hn=>hRX.walks k o ho hn⟩,⟨hRX.size,fun k hk he=>hRX.block k hk (fun e=>he (.inl e)) (fun e=>he (.inr (.inl e))) (fun e=>he (.inr (.inr e)))⟩,y8, .slice (some ad0) my d9,(hsc b (by omega)).trans u1,(hsc (b+1) (by omega)).trans u2,?_,?_,?_,hR4,?_,HTK.out⟩
    ·rw [hgd];exact cqz u3 0 _ rfl
    ·exact Kd.aJz (Kd.cyz (Kd.bTz (Kd.cDz t4 hb13)) (fun k hk=>hsc k (by have:=hk.2.1;have:=HSZ.out;omega))) (fun _ _=>trivial)
    ·exact Kd.aJz (Kd.cyz (Kd.bTz (Kd.cDz t5 hb13)) (fun k hk=>hsc k (by have:=hk.2.1;have:=HSZ.out;omega))) (fun _ _=>trivial)
    ·intro x hx;rcases List.mem_append.1 hx with hx|hx
     ·exact (HH7.out x hx).move (fun k hk _=>hRX.block k hk.2 (fun e=>hk.1 (.inl e)) (fun e=>hk.1 (.inr (.inl e))) (fun e=>hk.1 (.inr (.inr e))))
     ·rw [List.mem_singleton.1 hx]
      exact HXX.out.move (fun k hk _=>hRX.block k hk.2 (fun e=>hk.1 (.inl e)) (fun e=>hk.1 (.inr (.inl e))) (fun e=>hk.1 (.inr (.inr e)))))
   have HGD:=Za (show goodL wb L0 ((pre++ [((i,A',c',bb):ThX)]).map thK)=(goodL wb L0 (pre.map thK)&&(evB wb bb&&nb==L0)) by
    rw [List.map_append, <-HNB.out]
    exact goodL_snoc wb L0 _ _)
   rw [HGD.out] at HFIN;clear HGD t1 t2 t3 t4 t5 t6 hXy hxy hx00 hxL hmy;generalize goodL wb L0 (pre.map thK)=gd at HFIN e10
   cases gd with
   |false=>
    have hfin:=HFIN.out wy false (Zw _ _) rfl;have HF5:=Za hfin.2.2.2.2;clear hfin HFIN HEVy
    gi_wp2
    first|exact HF5.out|(refine ⟨trivial,?_⟩;gi_wp2;exact HF5.out)
   |true=>
    gi_wp2
    refine ⟨trivial,(CallsIn.inRound _ (callsIn_wide.2 HEVy.out)).mono ?_⟩;rintro e w13 ⟨rfl,hb13⟩;clear HEVy e9 e10 e10f hcell0 q0 q1 q2;generalize evB wb bb=ev at HFIN|-
    cases ev with
    |false=>
     have hfin:=HFIN.out w13 false hb13 rfl;obtain ⟨e9,hcell0,e10,e10f,hf5⟩:=hfin;have HF5:=Za hf5;clear hf5 HFIN hb13
     gi_wp2
     exact HF5.out
    |true=>
     have hfin:=HFIN.out w13 (nb==L0) hb13 (by simp);obtain ⟨e9,hcell0,e10,e10f,hf5⟩:=hfin
     have hbq:((nb:Int)==(L0:Int))=(nb==L0):=by
      by_cases h:nb=L0
      ·subst h;simp
      ·rw [beq_eq_false_iff_ne.2 h,beq_eq_false_iff_ne.2 (by omega)]
     have HF5:=Za hf5;clear hf5 HFIN hb13
     gi_wp2
     exact HF5.out
  ·have hj: ¬((m9:Int)<(n:Int)):=by have:=HMIN.out;omega
   have HQ:=Za (show (fun wy=> ∃y8 y9,wy.heap[b]?=some (.cells #[y8] 57 (0,0))/\wy.heap[b+1]?=some (.cells #[y9] 24 (0,0))/\wy.heap[b+1+1]?=some (.cells #[.bool (goodL wb L0 (pre.map thK))] 4 (0,0))/\(Kd.int .i64).R 3 wy w4.heap.size (fun _=>True) y8 (((pre++ [((i,A',c',bb):ThX)]).take n).map fun x=>(x.1:Int))/\slK.R 34 wy w4.heap.size (fun _=>True) y9 ((pre++ [((i,A',c',bb):ThX)]).take n)/\RX w4.heap.size b (b+1) (b+1+1) Wx wy) Wx from ⟨_,_,HH1.out,HH2.out,HK3.out,by rw [List.take_append_of_le_length (by omega)];exact HR8.out,by rw [List.take_append_of_le_length (by omega)];exact HR9.out,RX.refl _ _ _ _ _⟩)
   try dsimp only at HQ
   obtain ⟨y8,y9,t1,t2,t3,t4,t5,t6⟩:=HQ.out;obtain ⟨Y9,d9,rfl⟩:=Kd.aRz t5;obtain ⟨x0,hx00,hxL⟩:=HX0.out;obtain ⟨ad0,rfl,hcell0⟩:=slK_cell0 t5 hx00;rw [show slE x0= .slice x0.2.1 L0 x0.2.2.1 by unfold slE;rw [hxL]] at hcell0;obtain ⟨my,hmy⟩: ∃m,((pre++ [((i,A',c',bb):ThX)]).take n).length=m:=⟨_,rfl⟩;have hmy0:0<my:=by rw [<-hmy];exact (Zk hx00).1
   have hmy1:(0:Int)<(my:Int):=by omega
   rw [hmy] at t2 t5;have e9:Wx.cell? ⟨b+1,0,none⟩=some (.slice (some ad0) my d9):=(aaz t2 0).trans rfl;have e10:Wx.cell? ⟨b+1+1,0,none⟩=some (.bool (goodL wb L0 (pre.map thK))):=(aaz t3 0).trans rfl;have e10f:=a6z t3 0;have hXy:=t6.blk HXP.out (by have:=HSZ.out;omega) (by omega) (by omega) (by omega);have q0:Wx.cell? ⟨W.heap.size,0,none⟩=some (.int .i64 p):=(aaz hXy 0).trans rfl;have q1:Wx.cell? ⟨W.heap.size,1,none⟩=some (.int .i64 (n:Int)):=(aaz hXy 1).trans rfl;have q2:Wx.cell? ⟨W.heap.size,2,none⟩=some (.int .i64 (mm:Int)):=(aaz hXy 2).trans rfl;have hxy:=HXX.out.move (W1:=Wx) (fun k hk _=>t6.block k hk.2 (fun e=>hk.1 (.inl e)) (fun e=>hk.1 (.inr (.inl e))) (fun e=>hk.1 (.inr (.inr e))));have HEVy:=Za (HEV.out A' c' bb Wx (Kd.F_now hxy.2) HXX.out.1);rw [HNB.out] at HEVy
   have HFIN := Za (show ∀ (w13 : World) (gd' : Bool), Below Wx.heap.size Wx w13 -> gd' = goodL wb L0 ((pre ++ [((i, A', c', bb) : ThX)]).map thK) -> w13.cell? ⟨b + 1, 0, none⟩ = some (.slice (some ad0) my d9) /\ w13.cell? ad0 = some (.slice x0.2.1 L0 x0.2.2.1) /\ w13.cell? ⟨b + 1 + 1, 0, none⟩ = some (.bool (goodL wb L0 (pre.map thK))) /\ w13.frozen? ⟨b + 1 + 1, 0, none⟩ = false /\
     KeepsFrom w4.heap.size Wx (w13.setCell ⟨b+1+1,0,none⟩ (.bool gd'))/\KpX w4.heap.size (fun k=>k=b\/k=b+1\/k=b+1+1) Wx (w13.setCell ⟨b+1+1,0,none⟩ (.bool gd'))/\(fun pre Wx=> ∃v8 v9,Wx.heap[b]?=some (.cells #[v8] 57 (0,0))/\Wx.heap[b+1]?=some (.cells #[v9] 24 (0,0))/\Wx.heap[b+1+1]?=some (.cells #[.bool (goodL wb L0 (pre.map thK))] 4 (0,0))/\(Kd.int .i64).R 3 Wx w4.heap.size (fun _=>True) v8 ((pre.take n).map fun x=>(x.1:Int))/\slK.R 34 Wx w4.heap.size (fun _=>True) v9 (pre.take n)/\RX w4.heap.size b (b+1) (b+1+1) w4 Wx/\(∀x,x∈pre->ThOk Wx (fun k=> ¬(k=b\/k=b+1\/k=b+1+1)/\k<w4.heap.size) x)/\pre.map thK=T.take pre.length) (pre++ [((i,A',c',bb):ThX)]) (w13.setCell ⟨b+1+1,0,none⟩ (.bool gd')) by
    intro w13 gd' hb13 hgd;have hN13:w4.heap.size<=Wx.heap.size:=Zt HSX.out t6.size;have u1:=awz t1 hb13;have u2:=awz t2 hb13;have u3:=awz t3 hb13;have hsc: ∀k,k≠b+1+1->(w13.setCell ⟨b+1+1,0,none⟩ (.bool gd')).heap[k]?=w13.heap[k]?:=fun k hk=>Below.heap_setCell w13 ⟨b+1+1,0,none⟩ (.bool gd') k hk
    have hRX:RX w4.heap.size b (b+1) (b+1+1) Wx (w13.setCell ⟨b+1+1,0,none⟩ (.bool gd')):=(t6.trans (RX.of_below hb13 hN13)).trans (RX.of_set u3 (.inr (.inr rfl)));have hR4:=HH6.out.trans hRX;refine ⟨(aaz u2 0).trans rfl,aUz hb13 hcell0,(aaz u3 0).trans rfl,a6z u3 0,⟨hRX.size,fun k o _ ho hn=>hRX.walks k o ho hn⟩,⟨hRX.size,fun k hk he=>hRX.block k hk (fun e=>he (.inl e)) (fun e=>he (.inr (.inl e))) (fun e=>he (.inr (.inr e)))⟩,y8, .slice (some ad0) my d9,(hsc b (by omega)).trans u1,(hsc (b+1) (by omega)).trans u2,?_,?_,?_,hR4,?_,HTK.out⟩
    ·rw [hgd];exact cqz u3 0 _ rfl
    ·exact Kd.aJz (Kd.cyz (Kd.bTz (Kd.cDz t4 hb13)) (fun k hk=>hsc k (by have:=hk.2.1;have:=HSZ.out;omega))) (fun _ _=>trivial)
    ·exact Kd.aJz (Kd.cyz (Kd.bTz (Kd.cDz t5 hb13)) (fun k hk=>hsc k (by have:=hk.2.1;have:=HSZ.out;omega))) (fun _ _=>trivial)
    ·intro x hx;rcases List.mem_append.1 hx with hx|hx
     ·exact (HH7.out x hx).move (fun k hk _=>hRX.block k hk.2 (fun e=>hk.1 (.inl e)) (fun e=>hk.1 (.inr (.inl e))) (fun e=>hk.1 (.inr (.inr e))))
     ·rw [List.mem_singleton.1 hx]
      exact HXX.out.move (fun k hk _=>hRX.block k hk.2 (fun e=>hk.1 (.inl e)) (fun e=>hk.1 (.inr (.inl e))) (fun e=>hk.1 (.inr (.inr e)))))
   have HGD:=Za (show goodL wb L0 ((pre++ [((i,A',c',bb):ThX)]).map thK)=(goodL wb L0 (pre.map thK)&&(evB wb bb&&nb==L0)) by
    rw [List.map_append, <-HNB.out]
    exact goodL_snoc wb L0 _ _)
   rw [HGD.out] at HFIN;clear HGD t1 t2 t3 t4 t5 t6 hXy hxy hx00 hxL hmy;generalize goodL wb L0 (pre.map thK)=gd at HFIN e10
   cases gd with
   |false=>
    have hfin:=HFIN.out Wx false (Zw _ _) rfl;have HF5:=Za hfin.2.2.2.2;clear hfin HFIN HEVy
    gi_wp2
    first|exact HF5.out|(refine ⟨trivial,?_⟩;gi_wp2;exact HF5.out)
   |true=>
    gi_wp2
    refine ⟨trivial,(CallsIn.inRound _ (callsIn_wide.2 HEVy.out)).mono ?_⟩;rintro e w13 ⟨rfl,hb13⟩;clear HEVy e9 e10 e10f hcell0 q0 q1 q2;generalize evB wb bb=ev at HFIN|-
    cases ev with
    |false=>
     have hfin:=HFIN.out w13 false hb13 rfl;obtain ⟨e9,hcell0,e10,e10f,hf5⟩:=hfin;have HF5:=Za hf5;clear hf5 HFIN hb13
     gi_wp2
     exact HF5.out
    |true=>
     have hfin:=HFIN.out w13 (nb==L0) hb13 (by simp);obtain ⟨e9,hcell0,e10,e10f,hf5⟩:=hfin
     have hbq:((nb:Int)==(L0:Int))=(nb==L0):=by
      by_cases h:nb=L0
      ·subst h;simp
      ·rw [beq_eq_false_iff_ne.2 h,beq_eq_false_iff_ne.2 (by omega)]
     have HF5:=Za hf5;clear hf5 HFIN hb13
     gi_wp2
     exact HF5.out
 case done=>
  rintro D xs Wx hD hxs ⟨v8,v9,h1,h2,h3,h4,h5,h6,h7,h8⟩ hDd;rw [HTD.out] at hxs;rw [hxs] at h3;obtain ⟨A8,c8,rfl⟩:=Kd.aRz h4;obtain ⟨A9,c9,rfl⟩:=Kd.aRz h5;have hlx:xs.length=T.length:=by rw [<-hxs,List.length_map]
  have his:(xs.take n).map (fun x=>(x.1:Int))=a3z.is n T:=by
   unfold a3z.is;rw [<-hxs, <-List.map_take,List.map_map];rfl
  have hfs:(xs.take n).map (fun x=>x.2.2.2)=(T.take n).map Prod.snd:=by
   rw [<-hxs, <-List.map_take,List.map_map];rfl
  have hl8:((xs.take n).map fun x=>(x.1:Int)).length=(xs.take n).length:=by rw [List.length_map]
  obtain ⟨m9,hm9⟩: ∃m,(xs.take n).length=m:=⟨_,rfl⟩;rw [hl8,hm9] at h1 h4;rw [hm9] at h2 h5;have HM9:=Za (show m9=min n T.length by rw [<-hm9,List.length_take,hlx]);have HM9X:=Za hm9;have hB:=HB4.out.trans (show Below W.heap.size w4 Wx from ⟨h6.os,h6.tape,h6.output,h6.size,fun k hk=>h6.block k (by have:=HSZ.out;omega) (by omega) (by omega) (by omega)⟩);have HBX:=Za hB;have HXP:=Za (h6.blk HX4.out (by have:=HSZ.out;omega) (by omega) (by omega) (by omega));have hc8:Wx.cell? ⟨b,0,none⟩=some (.slice A8 m9 c8):=(aaz h1 0).trans rfl;have hc9:Wx.cell? ⟨b+1,0,none⟩=some (.slice A9 m9 c9):=(aaz h2 0).trans rfl;have hc10:Wx.cell? ⟨b+1+1,0,none⟩=some (.bool (goodL wb L0 T)):=(aaz h3 0).trans rfl;have q0:Wx.cell? ⟨W.heap.size,0,none⟩=some (.int .i64 p):=(aaz HXP.out 0).trans rfl;have q1:Wx.cell? ⟨W.heap.size,1,none⟩=some (.int .i64 (n:Int)):=(aaz HXP.out 1).trans rfl;have q2:Wx.cell? ⟨W.heap.size,2,none⟩=some (.int .i64 (mm:Int)):=(aaz HXP.out 2).trans rfl
  rw [his] at h4;have HC8:=Za (Kd.aNz h4).2.2;have HF9:=Za (Kd.dwz (first_F h5 (fun x hx=>h7 x (List.mem_of_mem_take hx))));have HFS9:=Za hfs;have HH2:=Za h2;have HDD:=Za hDd;have HDN:=Za hD;have HSX:=Za (show w4.heap.size<=Wx.heap.size from h6.size);clear h1 h2 h3 h4 h5 h6 h7 h8 hxs hlx his hfs hl8 hm9 hDd hD hB;simp only [Exit.inBlock,Exit.then];have hres:=HRES.out;by_cases hlt:T.length<n
  ·rw [Ya hlt] at hres;obtain ⟨rfl,rfl⟩: [] =r1/\5=r2:=by simpa using hres
   have hj:((m9:Int)<(n:Int)):=by have:=HM9.out;omega
   clear hres;go_wp2;refine cAz [D] Wx (by simp) (fun D' hD'=>by rw [List.mem_singleton] at hD';rw [hD'];exact HDD.out) (fun w' hkp hsz hos htp hou=> ?_)
   have hcc: ∀(q:Nat) (oo:Obj),Wx.heap[q]?=some oo->oo.isCells=true->w'.heap[q]?=Wx.heap[q]?:=fun q oo hq ho=>hkp q (aPz hq) (fun hm=>by
    rw [List.mem_singleton] at hm;subst hm
    rw [HDD.out] at hq;cases hq;cases ho)
   exact ⟨_,results_tmp2 rfl _ _ _,_,rfl,S_keepK (Kd.S_nil _ _ _ _ _) hcc,hos.trans HBX.out.os,htp.trans HBX.out.tape,hou.trans HBX.out.output,by rw [hsz];exact HBX.out.size,fun q hq=>(hkp q (Zp hq HBX.out.size) (fun hm=>by
    rw [List.mem_singleton] at hm;have:=HDN.out;have:=HB4.out.size
    omega)).trans (HBX.out.block q hq)⟩
  ·rw [Yb hlt] at hres;have hj: ¬((m9:Int)<(n:Int)):=by have:=HM9.out;omega
   cases hgd:goodL wb L0 T with
   |false=>
    rw [hgd] at hc10 hres;rw [Yb (by decide)] at hres;obtain ⟨rfl,rfl⟩: [] =r1/\1=r2:=by simpa using hres
    clear hres hgd;go_wp2;refine cAz [D] Wx (by simp) (fun D' hD'=>by rw [List.mem_singleton] at hD';rw [hD'];exact HDD.out) (fun w' hkp hsz hos htp hou=> ?_)
    have hcc: ∀(q:Nat) (oo:Obj),Wx.heap[q]?=some oo->oo.isCells=true->w'.heap[q]?=Wx.heap[q]?:=fun q oo hq ho=>hkp q (aPz hq) (fun hm=>by
     rw [List.mem_singleton] at hm;subst hm
     rw [HDD.out] at hq;cases hq;cases ho)
    exact ⟨_,results_tmp2 rfl _ _ _,_,rfl,S_keepK (Kd.S_nil _ _ _ _ _) hcc,hos.trans HBX.out.os,htp.trans HBX.out.tape,hou.trans HBX.out.output,by rw [hsz];exact HBX.out.size,fun q hq=>(hkp q (Zp hq HBX.out.size) (fun hm=>by
     rw [List.mem_singleton] at hm;have:=HDN.out;have:=HB4.out.size
     omega)).trans (HBX.out.block q hq)⟩
   |true=>
    rw [hgd] at hc10 hres;rw [Ya rfl] at hres;unfold a3z.g at hres;rw [HWBE.out] at hres;by_cases hfu:(invF wb (subM p n mm (a3z.is n T))).2<n
    ·rw [Ya hfu] at hres;cases hres
    rw [Yb hfu] at hres;by_cases hsm:aLz.small ((T.take n).map Prod.snd)=true
    rotate_left
    ·rw [Yb hsm] at hres;cases hres
    rw [Ya hsm] at hres;have hmn:m9=n:=by have:=HM9.out;omega
    subst hmn;have hisl:(a3z.is m9 T).length=m9:=by unfold a3z.is;rw [List.length_map,List.length_take];omega
    have hisr: ∀i,i∈a3z.is m9 T->0<=i/\i<((m9+mm:Nat):Int):=fun i hi=>by
     unfold a3z.is at hi;obtain ⟨x,hx,rfl⟩:=List.mem_map.1 hi;have h1:=thereF_lt 0 l hv x (by rw [HTD.out];exact List.mem_of_mem_take hx);have:=HN.out;have:=HNN.out;omega
    have hIV:=HINV.out A8 c8 (a3z.is m9 T) Wx HC8.out hisl hisr hfu;have HIV:=Za hIV
    have HSM:=Za (show ((T.take m9).map Prod.snd).length<=1000/\ ∀r,r∈(T.take m9).map Prod.snd->r.length<=1000000 by
     simp only [aLz.small,Bool.and_eq_true,decide_eq_true_eq,List.all_eq_true] at hsm
     exact hsm)
    have HFL:=Za (show ((T.take m9).map Prod.snd).length=m9 by rw [List.length_map,List.length_take];omega)
    have hgs: ∀r,r∈subM p m9 mm (a3z.is m9 T)->Good wb m9 r:=by
     have hpg:=dgz p m9 mm n1 mm1 n8 mm4;rw [HWBE.out] at hpg;unfold subM genM;exact pickF_good (fun r hr=>(List.mem_append.1 hr).elim (d8z wb HPB.out m9 r) (hpg.1 r)) _ (fun i hi=>by rw [List.length_append,bVz,hpg.2];exact hisr i hi)
    have hsl:(subM p m9 mm (a3z.is m9 T)).length=m9:=by unfold subM;rw [fhz];exact hisl
    have hig:=invF_good HPB.out (subM p m9 mm (a3z.is m9 T)) (by rw [hsl];exact hgs);rw [hsl] at hig;have hfirst:=HF9.out;rw [HFS9.out,HM9X.out] at hfirst;have HFI9:=Za hfirst;have HRL:=Za hres;obtain ⟨iv,hiv⟩: ∃iv,(invF wb (subM p m9 mm (a3z.is m9 T))).1.map (·.drop m9)=iv:=⟨_,rfl⟩
    have HGR:=Za (show (∀r,r∈iv->Good wb m9 r)/\iv.length=m9 by
     rw [<-hiv];refine ⟨fun r hr=> ?_,by rw [List.length_map];exact hig.2⟩;obtain ⟨q,hq,rfl⟩:=List.mem_map.1 hr;have:=hig.1 q hq
     exact ⟨by rw [List.length_drop,this.1];omega,fun x hx=>this.2 x (List.mem_of_mem_drop hx)⟩)
    rw [hiv] at HIV HRL;obtain ⟨first,hfr⟩: ∃f,(T.take m9).map Prod.snd=f:=⟨_,rfl⟩;rw [hfr] at HSM HFL HRL HFI9;clear hres hgd hfu hsm hisl hisr hIV hgs hsl hig hfirst hiv hfr
    go_wp2_with fail
    refine HIV.out.mono ?_;rintro e w6 ⟨vi,rfl,s1,s2⟩;obtain ⟨AI,ci,rfl⟩:=Kd.aRz (Kd.S_R s1)
    obtain ⟨ai,rfl⟩: ∃ai,AI=some ai:=by
     cases AI with
     |none=>have h1:=A_none (Kd.aNz (Kd.S_R s1)).2.2;rw [HGR.out.2] at h1;omega
     |some ai=>exact ⟨ai,rfl⟩
    have HB6:=Za (HBX.out.trans (s2.mono HBX.out.size));have hiF:=Kd.bZz (Kd.S_F (Kd.bFz s1)) (ok':=fun k=>k<w6.heap.size) (fun k hk=>hk.2.2.1);rw [HGR.out.2] at hiF;have HIF:=Za hiF;have HF96:=Za (Kd.bZz (Kd.cEz HFI9.out s2) (ok':=fun k=>k<w6.heap.size) (fun k hk=>Zp hk.2 s2.size));have HX6:=Za (awz HXP.out s2);have H96:=Za (awz HH2.out s2);have HD6:=Za (awz HDD.out s2);rw [HGR.out.2];clear s1 s2 hiF HIV HINV HFI9 HXP HH2 HDD HF9 hc8 hc9 hc10 q0 q1 q2 HC8 HEV HFS HFH hj;go_wp2
    go_loopw [15,84] (fun v iv_ wr=> ∃(k':Nat) (acc:List (List Int)),k'<=m9/\iv_= .int .i64 (k':Int)/\Aside0 (Kd.S (dM 5 .u8) 34 wr w6.heap.size (fun _=>True) v acc)/\Aside0 (Below w6.heap.size w6 wr)/\Aside0 (a3z.l k wb first (iv.drop k') acc=some (r1,r2))/\acc.length=k') (fun _ iv_ _=>m9 - (intOf iv_).toNat)
    case atStart=>exact ⟨0, [],Nat.zero_le _,rfl,⟨Kd.S_nil _ _ _ _ _⟩,⟨Zw _ _⟩,HRL,rfl⟩
    clear HRL;obtain ⟨w7,rfl⟩: ∃w7,w7=wr:=⟨_,rfl⟩;obtain ⟨j,acc,hj,rfl,HO,HB7,HL7,hacc⟩:=hrel;have HAC:=Za hacc;clear hacc;by_cases hlt7:j<m9
    ·obtain ⟨row,hrow⟩: ∃x,iv[j]?=some x:=⟨_,Zf (by rw [HGR.out.2];exact hlt7)⟩
     have hdr:iv.drop j=row::iv.drop (j+1):=by
      obtain ⟨h1,h2⟩:=Zk hrow;rw [List.drop_eq_getElem_cons h1,h2]
     have hl7:=HL7.out;rw [hdr,a3z.l] at hl7;obtain ⟨⟨t1,t2⟩,hd,hl8⟩:=Option.bind_eq_some_iff.1 hl7;dsimp only at hl8;have hgr:=HGR.out.1 row (Zo hrow);have hI7:=Kd.cmz (W1:=w7) HIF.out (fun k hk _=>HB7.out.block k hk);rw [<-HGR.out.2] at hI7;obtain ⟨A',c',e1,l1,FR⟩:=row_atF hI7 j row hrow;have HFR:=Za FR;have HF97:=Za (Kd.cmz (W1:=w7) HF96.out (fun k hk _=>HB7.out.block k hk));have hq0:w7.drew.cell? ⟨W.heap.size,0,none⟩=some (.int .i64 p):=(aaz (awz HX6.out HB7.out) 0).trans rfl;have hq9:w7.drew.cell? ⟨b+1,0,none⟩=some (.slice A9 m9 c9):=(aaz (awz H96.out HB7.out) 0).trans rfl;have HL8:=Za hl8;have HD:=Za hd;have HRW:=Za hgr;have HSW:=Za HB7.out.size;have HFD7:=Za (HFD.out w7.drew)
     have HDT:=Za (show∀(w8:World) (g:Nat),w7.heap.size<=g->Below w7.heap.size w7 w8->Fd w8 g wb (fpoly wb) (fun _=>False)->Calls Tryz.prog 47 #[.pointer (some ⟨g,0,none⟩), .slice A' m9 c', .slice A9 m9 c9] w8 _ from by
      intro w8 g hg hb8 hfd
      have h1:=rDot.calls g wb (fun _=>False) A' A9 c' c9 k row first t1 t2 w8 HPB.out hfd (fun _ h=>h.elim) (Kd.bZz (Kd.cmz HFR.out (fun q hq _=>hb8.block q (Zp hq HSW.out))) (fun q hq=>by show q≠g;have:q<w6.heap.size:=hq;have:=HSW.out;omega)) (by rw [HFL.out];exact Kd.bZz (Kd.cmz HF97.out (fun q hq _=>hb8.block q (Zp hq HSW.out))) (fun q hq=>by show q≠g;have:q<w6.heap.size:=hq;have:=HSW.out;omega)) (fun x hx=>by
       have:=HRW.out.2 x hx
       simp [inF,this]) (by rw [HRW.out.1,HFL.out]) (by rw [HFL.out];omega) HSM.out.2 HSM.out.1 HD.out
      rw [HRW.out.1,HFL.out] at h1
      exact h1)
     have i1:(0:Int)<=(j:Int):=by omega
     have i2:(j:Int)<(m9:Int):=by omega
     rw [hgr.1] at e1 l1;obtain ⟨nf,hnf⟩: ∃m,first.length=m:=⟨_,rfl⟩;clear hrow hdr hl7 hd hl8 hI7 FR HL7 l1
     go_wp2_with fail
     refine regOnly_ ?_;refine clz (n:=11) (S:=fun w'=>w'.cell? ⟨W.heap.size,0,none⟩=some (.int .i64 p)/\w'.cell? ⟨b+1,0,none⟩=some (.slice A9 m9 c9)) (ds:= []) (bA 11 0) kr_ rfl rfl ⟨hq0,hq9⟩ (fun hHeld=> ?_);refine pu_ 0 89 1 ?_;refine pu_ 3 92 9 ?_;refine tk_ 1 90 11 hHeld ?_;refine tk_ 4 93 27 hHeld ?_;refine one_ (i:=2) (N:=some 91) (bA 11 31) rfl rfl kr_ (by decide) (fun K hK=> ?_);refine goes_ Tryz.func45 kr_ rfl #[.int .i64 p] (by rfl) rfl rfl am_ ?_
     with_reducible refine (HFD7.out).mono ?_
     rintro e w8 ⟨g,rfl,f1,f2,f3⟩;refine ⟨_,rfl,?_⟩;have HB8:=Za (Below.trans (crz (Zw w7.heap.size w7)) f3);have HG8:=Za (show w7.heap.size<=g from f2);have hdt:=HDT.out w8 g HG8.out HB8.out (f1.fd (fun _=>False) (fun h=>h));have HDOT:=Za hdt;clear hdt f1 f2 f3;refine hK.out _ _ ⟨aUz HB8.out hq0,aUz HB8.out hq9⟩ (fun hHeld=> ?_);clear hK K;refine norm_ (a':= ?_) ?_ ?_;rotate_left
     ·show Act.put _ (some 91) _=_;simp only [Act.put,Zg,Zh,Zi,i64_w,i32_w];rfl
     refine one_ (i:=5) (N:=some 94) (bA 11 63) rfl rfl kr_ (by decide) (fun K hK=> ?_);refine goes_ Tryz.func47 kr_ rfl #[.pointer (some ⟨g,0,none⟩), .slice A' m9 c', .slice A9 m9 c9] (by rfl) rfl rfl am_ ?_
     with_reducible refine (HDOT.out).mono ?_
     rintro e w9 ⟨v9,rfl,d1,d2,d3⟩;refine ⟨_,rfl,?_⟩;obtain ⟨Av,cv,rfl⟩:=Kd.aRz d1;have D1:=Za d1;have HBD:=Za (show Below w7.heap.size w7 w9 from d3.below HB8.out HG8.out);clear d1 d2 d3;refine hK.out _ _ ⟨aUz HBD.out hq0,aUz HBD.out hq9⟩ (fun hHeld=> ?_);clear hK K;refine norm_ (a':= ?_) ?_ ?_;rotate_left
     ·show Act.put _ (some 94) _=_;simp only [Act.put,Zg,Zh,Zi,i64_w,i32_w];rfl
     refine pu_ 6 88 127 ?_;refine pu_ 7 95 255 ?_;refine pu_ 8 96 511 ?_;refine pu_ 9 18 1023 ?_;refine pu_ 10 19 2047 ?_;refine done_ kr_ ?_;refine regOnly_normal ?_;clear hHeld;have hsf:=d3z HO.out HBD.out HB7.out.size (Kd.bDz D1.out HB8.out.size);obtain ⟨nv,hnv⟩: ∃m,t1.length=m:=⟨_,rfl⟩;rw [hnv] at hsf|-;have HS1:=Za hsf.1;have HM1:=Za hsf.2.1;have HOK:=Za hsf.2.2;have HB9:=Za (HB7.out.trans (HBD.out.mono HB7.out.size));clear hsf hnv HO HB7 HBD D1 HDOT HDT HFD7 hq0 hq9 HFR HF97 HD;simp only [Exit.inBlock,Exit.then]
     go_wp2_with ((with_reducible refine anz (b:= .append) (xs:= #[.tmp 97, .tmp 99]) rfl ?_);go_must (at_builtin;refine Kd.bLz (dM 5 .u8) (w0:=w6) w6.heap.size rfl (.tmp 97) (.tmp 99) 24 34 (.slice none 0 0) 24 rfl Tryz.underlying24 kr_ rfl (by decide) (by decide) _ _ t1 [.slice Av nv cv] (fun _=>True) (fun k'=>w7.heap.size<=k') rfl rfl HM1.out HOK.out (fun _ _=>trivial) HS1.out HB9.out HB9.out.size ?aL ?_;(case aL=>have:=HAC.out;omega));intro v10 w10 ho2 hb2 hg2 hat2;have HO10:=Za ho2;have HB10:=Za hb2;clear ho2 hb2 hg2 hat2)
     go_roundw
     case rel=>exact ⟨j+1,acc++ [t1],by omega,by go_num,HO10,HB10,HL8,by have:=HAC.out;simp;omega⟩
     case measure=>simp [intOf];omega
    ·obtain rfl:j=m9:=by omega
     have hl7:=HL7.out;rw [List.drop_of_length_le (by rw [HGR.out.2];exact Zv _),a3z.l] at hl7;obtain ⟨rfl,rfl⟩:acc=r1/\0=r2:=by simpa using hl7
     have HFN:=Za (Kd.cJz HO.out HB6.out.size);have HB8:=Za (HB6.out.trans (HB7.out.mono HB6.out.size));have HD8:=Za (awz HD6.out HB7.out);clear hl7 HL7 HO;go_wp2;refine cAz [D] w7 (by simp) (fun D' hD'=>by rw [List.mem_singleton] at hD';rw [hD'];exact HD8.out) (fun w' hkp hsz hos htp hou=> ?_)
     have hcc: ∀(q:Nat) (oo:Obj),w7.heap[q]?=some oo->oo.isCells=true->w'.heap[q]?=w7.heap[q]?:=fun q oo hq ho=>hkp q (aPz hq) (fun hm=>by
      rw [List.mem_singleton] at hm;subst hm
      rw [HD8.out] at hq;cases hq;cases ho)
     exact ⟨_,results_tmp2 rfl _ _ _,_,rfl,S_keepK (HFN.out) hcc,hos.trans HB8.out.os,htp.trans HB8.out.tape,hou.trans HB8.out.output,by rw [hsz];exact HB8.out.size,fun q hq=>(hkp q (Zp hq HB8.out.size) (fun hm=>by
      rw [List.mem_singleton] at hm;have:=HDN.out;have:=HB4.out.size
      omega)).trans (HB8.out.block q hq)⟩
theorem a3z.bad (p K M : Int) (fi : Bool) (A1 A2 : Option Addr) (c1 c2 : Nat) (l : List (List Int)) (hv : List Bool) (W : World)
  (hf:bEz.f p K M l=some fi) (hr:Kd.C (dM 5 .u8) W A1 l.length l) (hc1:l.length<=c1) (hbad:fi=false\/hv.length≠l.length):
  Calls Tryz.prog 27 #[.agg #[.int .i64 p, .int .i64 K, .int .i64 M], .slice A1 l.length c1, .slice A2 hv.length c2] W fun e w'=>e= .returned (.tuple #[.slice none 0 0, .int .i64 1])/\Below W.heap.size W w':=by
 have HFI:=Za (fun (w1:World) (hB:Below W.heap.size W w1)=>bEz.calls p K M A1 c1 l fi w1 (Kd.azz hr hB) hc1 hf);have HBAD:=Za hbad;generalize l.length=N at HFI HBAD|-;generalize hv.length=N2 at HBAD|-;have hu:=Tryz.underlying23;have HB:=Za (alz (Zw W.heap.size W) (.cells #[.int .i64 p, .int .i64 K, .int .i64 M] 23));have HX:=Za (b7z W (.cells #[.int .i64 p, .int .i64 K, .int .i64 M] 23));clear hf hr hc1 hbad;refine (callsIn_wide (n:=8)).1 (callsIn_of_wp_marks Tryz.func27 rfl trivial (wpIn_wide.2 ?_) rfl);simp only [Tryz.ntmps27,List.size_toArray,List.length_cons,List.length_nil,Nat.reduceAdd,Nat.reduceSub,Array.replicate_succ,Array.replicate_zero,List.push_toArray,List.append_toArray,List.nil_append,List.cons_append]
 go_wp2_with fail
 generalize W.alloc (.cells #[.int .i64 p, .int .i64 K, .int .i64 M] 23)=w0 at HB HX|-;refine (HFI.out w0 HB.out).mono ?_;rintro e w1 ⟨rfl,hB1⟩;have HB1:=Za (HB.out.trans (hB1.mono HB.out.size));clear hB1 HX HB HFI;have leave: ∀(Q:Prop),((∀w':World,(∀q,q<w1.heap.size->w'.heap[q]?=w1.heap[q]?)->w'.heap.size=w1.heap.size->w'.os=w1.os->w'.tape=w1.tape->w'.output=w1.output->Below W.heap.size W w')->Q)->Q:=fun Q h=>h (fun w' hkp hsz hos htp hou=>⟨hos.trans HB1.out.os,htp.trans HB1.out.tape,hou.trans HB1.out.output,by rw [hsz];exact HB1.out.size,fun q hq=>(hkp q (Zp hq HB1.out.size)).trans (HB1.out.block q hq)⟩)
 cases fi with
 |false=>
  go_wp2;refine cAz [] w1 (by simp) (fun D' hD'=>by simp at hD') (fun w' hkp hsz hos htp hou=> ?_);exact ⟨_,results_tmp2 rfl _ _ _,rfl,hos.trans HB1.out.os,htp.trans HB1.out.tape,hou.trans HB1.out.output,by rw [hsz];exact HB1.out.size,fun q hq=>(hkp q (Zp hq HB1.out.size) (by simp)).trans (HB1.out.block q hq)⟩
 |true=>
  have hne:N2≠N:=HBAD.out.resolve_left (by decide);have hself:((N2:Int) !=(N:Int))=true:=by simp;omega
  clear leave;go_wp2;refine cAz [] w1 (by simp) (fun D' hD'=>by simp at hD') (fun w' hkp hsz hos htp hou=> ?_);exact ⟨_,results_tmp2 rfl _ _ _,rfl,hos.trans HB1.out.os,htp.trans HB1.out.tape,hou.trans HB1.out.output,by rw [hsz];exact HB1.out.size,fun q hq=>(hkp q (Zp hq HB1.out.size) (by simp)).trans (HB1.out.block q hq)⟩
theorem a3z.calls (k : Nat) (a0_0 a0_1 a0_2 : Int) (A1 : Option Addr) (c1 : Nat) (l1 : List (List Int)) (A2 : Option Addr) (c2 : Nat) (l2 : List Bool) (r1 : List (List Int)) (r2 : Int) (w : World) (hr1 : Kd.C (Kd.slice 5 (Kd.int .u8)) w A1 l1.length l1) (hc1 : l1.length <= c1) (hr2 : Kd.C Kd.bool w A2 l2.length l2) (_hc2 : l2.length <= c2) (h : a3z.f k a0_0 a0_1 a0_2 l1 l2 = some (r1, r2)) :
  Calls Tryz.prog 27 #[.agg #[.int .i64 a0_0, .int .i64 a0_1, .int .i64 a0_2], .slice A1 l1.length c1, .slice A2 l2.length c2] w fun e w'=> ∃v0_:Value,e= .returned (.tuple #[v0_, .int .i64 r2])/\Kd.S (Kd.slice 5 (Kd.int .u8)) 34 w' w.heap.size (fun _=>True) v0_ r1/\Below w.heap.size w w':=by
 unfold a3z.f at h;obtain ⟨fi,hfi,h⟩:=Option.bind_eq_some_iff.1 h
 have bad:some (([] :List (List Int)),(1:Int))=some (r1,r2)->(fi=false\/l2.length≠l1.length)->Calls Tryz.prog 27 #[.agg #[.int .i64 a0_0, .int .i64 a0_1, .int .i64 a0_2], .slice A1 l1.length c1, .slice A2 l2.length c2] w fun e w'=> ∃v0_:Value,e= .returned (.tuple #[v0_, .int .i64 r2])/\Kd.S (Kd.slice 5 (Kd.int .u8)) 34 w' w.heap.size (fun _=>True) v0_ r1/\Below w.heap.size w w':=by
  intro he hb;simp only [Zx,Zy] at he;obtain ⟨rfl,rfl⟩:=he;refine (a3z.bad a0_0 a0_1 a0_2 fi A1 A2 c1 c2 l1 l2 w hfi hr1 hc1 hb).mono ?_;rintro e w' ⟨rfl,hB⟩;exact ⟨_,rfl,Kd.S_nil _ _ _ _ _,hB⟩
 cases fi with
 |false=>
  rw [Yb (by decide)] at h;exact bad h (.inl rfl)
 |true=>
  rw [Ya rfl] at h;by_cases hl:l2.length=l1.length
  ·rw [Ya hl] at h
   have hmay:aDz.f a0_0 a0_1 a0_2=some true/\(l1.length:Int)=wrap64 (a0_1+a0_2):=by
    unfold bEz.f at hfi;obtain ⟨b,hb,h2⟩:=Option.bind_eq_some_iff.1 hfi
    cases b with
    |false=>rw [Yb (by decide)] at h2;cases h2
    |true=>
     rw [Ya rfl] at h2;exact ⟨hb,by simpa using h2⟩
   obtain ⟨hb,hlen⟩:=hmay;obtain ⟨p1,p2,k1,k2,m1,m2⟩:=cvz hb;obtain ⟨n,rfl⟩:=Int.eq_ofNat_of_zero_le (show 0<=a0_1 by omega);obtain ⟨m,rfl⟩:=Int.eq_ofNat_of_zero_le (show 0<=a0_2 by omega);have hln:l1.length=n+m:=by unfold wrap64 at hlen;omega
   rw [Zu,Zu] at h;have:=a3z.go k a0_0 n m l1.length A1 A2 c1 c2 l1 l2 r1 r2 w hfi hb rfl hl hln hr1 hc1 hr2 h;rw [<-hl] at this|-;rw [hl] at this|-;exact this
  ·rw [Yb hl] at h;exact bad h (.inr hl)
end Go.Proofs.Xc
end
