-- Joined texts of this work (wip/tools/bundle.py).
import Derived.OrdersIn
import Derived.Laws.EntriesVeiled
import Derived.Test.YtpdakdcmahlghaaGreatBCodecParity15
set_option maxHeartbeats 8000000
set_option maxRecDepth 100000
set_option linter.unusedVariables false
set_option linter.unusedSimpArgs false
section
namespace Go.Proofs.Xc
open Go.RowKit Go.Proofs.Pw Go.Proofs.Pl Go.Proofs.Pm
attribute [local go_sem] bfz bgz boz bpz a5z a6z bhz biz
section
variable {P : Program} {Q : Exit -> Act -> World -> Prop}
theorem opIn_of {l n:Nat} {o:Oper} {a:Act} {w:World} {K:Act->World->Prop} (hd: ∀c,o.op≠ .defer c) (h:o.wp P a w K Q):o.wpIn (Fence.wide.inRound l) n P a w K Q:=by
 refine ⟨fun _ _=>trivial,?_⟩;rw [Oper.semAt_eq _ _ _ hd];unfold Oper.wp at h;generalize (execOp a.eval o).run P w=r at h
 cases r with
 |ok x w'=>
  cases x with
  |value v=>exact h
  |skip=>exact h
  |defer d=>exact h
  |enter f args=>exact ⟨fun hh=>(by cases hh),CallsIn.inRound l (callsIn_wide.2 h)⟩
  |row row args=>
   refine ⟨fun hh=>(by cases hh),fun c cs _=> ?_⟩;obtain ⟨v,w2,r1,s1⟩:=h c cs;exact ⟨v,w2,r1,stepsIn_wide.2 s1⟩
  |_=>exact h.elim
 |halt hh w'=>
  cases hh with
  |panic v=>exact h
  |_=>exact h.elim
def noDefer (ops:Array Oper):Bool:=ops.all fun o=>match o.op with | .defer _=>false|_=>true
theorem noDefer_spec {ops:Array Oper} (h:noDefer ops=true) {i:Nat} {o:Oper} (ho:ops[i]?=some o) (c:Call):o.op≠ .defer c:=by
 obtain ⟨hi,rfl⟩:=Array.getElem?_eq_some_iff.1 ho;have:=Array.all_eq_true.1 h i hi;intro e;rw [e] at this;cases this
theorem d3z {l n:Nat} {md:Region.Mode} {ops:Array Oper} (hnd:noDefer ops=true) (hq: ¬LetsOut Q): ∀(fuel:Nat) (listed:Array Bool) (a:Act) (w:World),wpAny P md ops Q fuel listed a w->wpAnyIn (Fence.wide.inRound l) n P md ops Q fuel listed a w
 |0,_,_,_,h=>h
 |fuel+1,listed,a,w,h=>by
  refine ⟨h.1,fun i hi=> ?_⟩;have h2:=h.2 i hi;unfold wpOp at h2;unfold wpOpIn;split at h2
  ·rename_i e
   rw [e];exact d3z hnd hq fuel _ _ _ h2
  ·rename_i o e
   rw [e];dsimp only;split at h2
   ·rename_i hw
    rw [Ya hw];rcases h2 with h2|h2
    ·exact opIn_of (noDefer_spec hnd e) (Oper.wp_mono (fun a' w' h'=>d3z hnd hq fuel _ a' w' h') h2)
    ·exact Yf h2.2 hq
   ·rename_i hw
    rw [Yb hw];exact ⟨fun _ _=>trivial,d3z hnd hq fuel _ _ _ h2⟩
theorem startIn_ {l n : Nat} {ops : Array Oper} {S : World -> Prop} {ds : List Nat} {id m : Nat} {a : Act} {w : World} (L : Array Bool) (hm : P.follows .mixedOrders = true) (hn : ops.size = m) (hl : Array.replicate m false = L) (hnd : noDefer ops = true) (hq : ¬ LetsOut Q) (hS : S w.drew)
  (h:S w.drew->wpAnyLast P .any ops Q S ds m L a w.drew):(Code.region id ops true).wpIn (Fence.wide.inRound l) n P Q a w:=by
 subst hn;subst hl;exact wpIn_region_any hm (d3z hnd hq _ _ _ _ (d0z _ _ _ _ (h hS)))
end
end Go.Proofs.Xc
end
section
namespace Go.Proofs.Xc
open Go.RowKit Go.Proofs.Pw Go.Proofs.Pl Go.Proofs.Pm
attribute [local go_sem] bfz bgz boz bpz a5z a6z bhz biz
attribute [local go_sem] Oper.semAt_some
def mulF (wb:Int) (a b:List (List Int)) (co:Nat):List (List Int):=a.map fun row=>(transp b co).map fun col=>dotF wb row col 0
theorem matrix_Mul.calls (g : Nat) (wb : Int) (S : Nat -> Prop) (A B : Option Addr) (ca cb co : Nat) (a b_ : List (List Int)) (W : World) (hw : wb = 8 \/ wb = 16) (hMa : MayOk wb a b_.length) (hMb : MayOk wb b_ co) (hF : Fd W g wb (fpoly wb) S) (hS : ∀ k, S k -> k < W.heap.size)
  (ha:Kd.F (dM 3 .i64) W (NotG g) A a.length a) (hb:Kd.F (dM 3 .i64) W (NotG g) B b_.length b_):
  Calls Tryz.prog 161 #[.pointer (some ⟨g,0,none⟩), .slice A a.length ca, .slice B b_.length cb] W fun e w'=> ∃v,e= .returned (.tuple #[v, .int .i64 0])/\Kd.S (dM 3 .i64) 57 w' W.heap.size (fun _=>True) v (mulF wb a b_ co)/\Fd w' g wb (fpoly wb) S/\BB W w' g:=by
 have HMA:=Za hMa;have HMB:=Za hMb;have HW:=Za hw;have HF:=Za hF;have HS:=Za hS;have HA:=Za ha;have HB:=Za hb;obtain ⟨r0,hr0⟩: ∃r,a[0]?=some r:=⟨_,Zf (by have:=hMa.n1;omega)⟩;obtain ⟨ad,A1,c1,rfl, -, -, -⟩:=b5z (Kd.F_now ha) 0 r0 hr0;have hrl:=(hMa.each r0 (Zo hr0)).1;have HR0:=Za hr0;have na:(0:Int)<(a.length:Int):=by have:=hMa.n1;omega
 have na20:a.length<=20:=hMa.n2;obtain ⟨n,hn⟩: ∃n,n=a.length:=⟨_,rfl⟩;obtain ⟨m,hm⟩: ∃m,m=b_.length:=⟨_,rfl⟩;have HN:=Za hn;have HM:=Za hm;have HL0:=Za hrl;rw [<-hn] at na na20|-;rw [<-hm];have hself:((m:Int) !=(m:Int))=false:=by simp
 clear hw hMa hMb hF hS ha hb hr0 hrl hn hm;refine (callsIn_wide (n:=8)).1 (callsIn_of_wp_marks Tryz.func161 rfl trivial (wpIn_wide.2 ?_) rfl);simp only [Tryz.ntmps161,List.size_toArray,List.length_cons,List.length_nil,Nat.reduceAdd,Nat.reduceSub,Array.replicate_succ,Array.replicate_zero,List.push_toArray,List.append_toArray,List.nil_append,List.cons_append];have HMY1:=Za (fun W1 (h:Below W.heap.size W W1)=>eEz.ok g S wb (fpoly wb) (some ad) ca m a W1 HW.out (HM.out▸HMA.out) (HF.out.below h) (Kd.aIz (Kd.F_now HA.out) h));have HMY2:=Za (fun W1 (h:Below W.heap.size W W1)=>eEz.ok g S wb (fpoly wb) B cb co b_ W1 HW.out HMB.out (HF.out.below h) (Kd.aIz (Kd.F_now HB.out) h));rw [<-HN.out] at HMY1;rw [<-HM.out] at HMY2;have HBX:=Za (show Below W.heap.size W (W.alloc (.cells #[.pointer (some ⟨g,0,none⟩)] 72)) from amz (Zw _ _) _);have hbx:(W.alloc (.cells #[.pointer (some ⟨g,0,none⟩)] 72)).heap[W.heap.size]?=some (.cells #[.pointer (some ⟨g,0,none⟩)] 72 (0,0)):=heap_alloc_new _ _
 go_wp2_with fail
 generalize W.alloc (.cells #[.pointer (some ⟨g,0,none⟩)] 72)=w1 at HBX hbx|-;have HX:=Za hbx;refine (HMY1.out w1 HBX.out).mono ?_;rintro e w2 ⟨rfl,hB2⟩;have HB2:=Za (HBX.out.trans (hB2.mono HBX.out.size));have HX2:=Za (aJz HX.out hB2);have hx2:w2.cell? ⟨W.heap.size,0,none⟩=some (.pointer (some ⟨g,0,none⟩)):=(abz HX2.out 0).trans rfl;clear hB2 hbx HMY1
 go_wp2_with fail
 refine (HMY2.out w2 HB2.out).mono ?_;rintro e w3 ⟨rfl,hB3⟩;have HB3:=Za (HB2.out.trans (hB3.mono HB2.out.size));have HX3:=Za (aJz HX2.out hB3);have hx3:w3.cell? ⟨W.heap.size,0,none⟩=some (.pointer (some ⟨g,0,none⟩)):=(abz HX3.out 0).trans rfl;obtain ⟨ad',A2,c2,he,hcell, -, -⟩:=b5z (Kd.aIz (Kd.F_now HA.out) HB3.out) 0 r0 HR0.out;obtain rfl:ad=ad':=Zn he;rw [dWz,HL0.out, <-HM.out] at hcell;clear hB3 hx2 HMY2 he;go_wp2
 refine wp_loop (fun a' wr=> ∃(u8 u10 u11 u12 u34 u35 u36 u37 u38 u39 u40 u41 u42 u43 u44 u45 u46 u47 u48 u49 u50 u51 u52 u53:Value) (k:Nat) (Ds:List Nat),a'= { tmps:= #[.pointer (some ⟨g,0,none⟩), .slice (some ad) n ca, .slice B m cb, .pointer (some ⟨W.heap.size,0,none⟩),undef,undef, .slice none 0 0, .int .i64 0,u8,undef,u10,u11,u12, .pointer (some ⟨g,0,none⟩), .slice (some ad) n ca, .bool true, .bool false, .bool false, .pointer (some ⟨g,0,none⟩), .slice B m cb, .bool true, .bool false, .bool false, .bool false, .slice (some ad) n ca, .pointer (some ad), .slice A2 m c2, .int .i64 (m:Int), .slice B m cb, .int .i64 (m:Int), .bool false, .bool false, .slice (some ad) n ca, .int .i64 (n:Int),u34,u35,u36,u37,u38,u39,u40,u41,u42,u43,u44,u45,u46,u47,u48,u49,u50,u51,u52,u53],defers:=Ds.map fun D=> { target:= .collected D,args:= #[] } } /\u34= .int .i64 (k:Int)/\k<=n/\Ds.Nodup/\
  Aside0 ((∀D,D∈Ds->wr.heap[D]?=some (.deferred (some [])))/\(∀D,D∈Ds->W.heap.size<D))/\Aside0 (Kd.S (dM 3 .i64) 57 wr W.heap.size (fun _=>True) u8 (mulF wb (a.take k) b_ co))/\Aside0 (Fd wr g wb (fpoly wb) (fun k=>S k\/k=W.heap.size\/some k=u8.ownBlock))/\Aside0 (BB W wr g)/\Aside0 (wr.heap[W.heap.size]?=some (.cells #[.pointer (some ⟨g,0,none⟩)] 72 (0,0)))) (fun a' _=>n - (intOf (a'.tmps.getD 34 undef)).toNat) ?atStart ?round
 case atStart=>exact ⟨.slice none 0 0,undef,undef,undef, .int .i64 0,undef,undef,undef,undef,undef,undef,undef,undef,undef,undef,undef,undef,undef,undef,undef,undef,undef,undef,undef,0, [],rfl,rfl,by omega,List.nodup_nil,⟨fun _ h=>by simp at h,fun _ h=>by simp at h⟩,⟨Kd.S_nil _ _ _ _ _⟩,⟨((HF.out.more).below HB3.out).thin (fun k _ hs=>hs.elim .inl (fun h=>h.elim (fun e=> .inr (by omega)) (fun e=>by simp [Value.ownBlock] at e)))⟩,⟨BB.of_below HB3.out g⟩,HX3⟩
 clear hcell hx3;rintro a' wr ⟨u8,u10,u11,u12,u34,u35,u36,u37,u38,u39,u40,u41,u42,u43,u44,u45,u46,u47,u48,u49,u50,u51,u52,u53,k,Ds,rfl,rfl,hk,hnd,HD,HO,HFd,HBB,HXb⟩;by_cases hlt:k<n
 ·obtain ⟨row,hrow⟩: ∃r,a[k]?=some r:=⟨_,Zf (by have:=HN.out;omega)⟩;have hFa:=F_bb HA.out HBB.out;obtain ⟨A',c',hcr,hle,hFr⟩:=row_atF hFa k row hrow;have i1:(0:Int)<=(k:Int):=by omega
  have i2:(k:Int)<(n:Int):=by omega
  have HFR:=Za hFr;have HRW:=Za hrow;have hrl:=(HMA.out.each row (Zo hrow)).1;rw [<-HM.out] at hrl;have HRL:=Za hrl;have hle2:m<=c':=by omega
  rw [hrl] at hcr;clear hFa hrow hrl hle hFr;have hcs:=columns.calls B m cb
  go_wp2_with (first|(go_at_call 184;refine (hcs _).mono ?_;rintro e w' ⟨rfl,rfl⟩))
  have hX10:(((wr.alloc (.cells #[.slice A' m c'] 57)).alloc (.cells #[.slice none 0 0] 57)).alloc (.cells #[.slice B m cb] 69)).heap[wr.heap.size]?=some (.cells #[.slice A' m c'] 57 (0,0)):=bzz (bzz (dsz wr _) _) _;have hX11:(((wr.alloc (.cells #[.slice A' m c'] 57)).alloc (.cells #[.slice none 0 0] 57)).alloc (.cells #[.slice B m cb] 69)).heap[wr.heap.size+1]?=some (.cells #[.slice none 0 0] 57 (0,0)):=bzz (coz _ _ _ (by simp)) _;have hX12:(((wr.alloc (.cells #[.slice A' m c'] 57)).alloc (.cells #[.slice none 0 0] 57)).alloc (.cells #[.slice B m cb] 69)).heap[wr.heap.size+1+1]?=some (.cells #[.slice B m cb] 69 (0,0)):=coz _ _ _ (by simp);have hB4:Below wr.heap.size wr (((wr.alloc (.cells #[.slice A' m c'] 57)).alloc (.cells #[.slice none 0 0] 57)).alloc (.cells #[.slice B m cb] 69)):=dzz (dzz (amz (Zw _ _) _) (amz (Zw _ _) _)) (amz (Zw _ _) _);have hsz:(((wr.alloc (.cells #[.slice A' m c'] 57)).alloc (.cells #[.slice none 0 0] 57)).alloc (.cells #[.slice B m cb] 69)).heap.size=wr.heap.size+1+1+1:=by simp
  generalize ((wr.alloc (.cells #[.slice A' m c'] 57)).alloc (.cells #[.slice none 0 0] 57)).alloc (.cells #[.slice B m cb] 69)=w4 at *
  obtain ⟨b,hb⟩: ∃b,b=wr.heap.size:=⟨_,rfl⟩;rw [<-hb] at hX10 hX11 hX12 hsz|-;have HX10:=Za hX10;have HX11:=Za hX11;have HX12:=Za hX12;have HB4:=Za hB4;have HSZ:=Za hsz;have HWB:=Za (show W.heap.size<b from hb▸a1z HXb.out);have hgl:g<W.heap.size:=HF.out.lt
  have HFB:=Za (show Kd.F (dM 3 .i64) w4 (fun k=> ¬(k=g\/k=b+1)) B b_.length b_ by
   have h1:=Kd.F_bound HB.out;have h2:=Kd.F_step (W1:=wr) h1 (fun k hk hlt=>HBB.out.block k hlt hk.1);have h3:=Kd.cQz h2 (show Below wr.heap.size wr w4 from hB4)
   exact Kd.cCz h3 (fun k hk h=>h.elim hk.1 (fun e=>by have:=hk.2;have:=HWB.out;omega)))
  have HFR4:=Za (show Kd.F (Kd.int .i64) w4 (fun k=>k≠g/\k<b) A' row.length row from by
   rw [hb]
   exact Kd.cQz (Kd.F_bound HFR.out) hB4)
  have HXb4:=Za (aJz HXb.out hB4);have HF4:=Za (((HFd.out.more).below hB4).thin (S':=fun k=>(S k\/k=W.heap.size\/some k=u8.ownBlock)\/k=b+1\/some k=(Value.slice none 0 0).ownBlock) (fun k _ hs=>hs.elim .inl (fun h=>h.elim (fun e=> .inr (by omega)) (fun e=>by simp [Value.ownBlock] at e))));have HBE:=Za hb;clear hcs hcr hX10 hX11 hX12 hB4 hb;refine (wpIn_wide (n:=8)).1 ?_
  refine e2z (α:=List Int×Nat) rfl (by omega) (gf:=196) (lb:= #[.pointer (some ⟨b+1+1,0,none⟩)]) rfl trivial (enters_of Tryz.func196 kr_ rfl)
   (columns_seq (b+1+1) w4.heap.size co cb (fun k=>k=g\/k=b+1) B b_ w4 w4 ?hf (Zv _) (Zv _) ⟨Zv _,fun _ _ _=>rfl⟩ HMB.out.n1 (by have:=HMB.out.n2;omega) (fun r hr=>(HMB.out.each r hr).1) (by have:=HMB.out.c2;omega) ?hx12 (by omega) (by have:=HWB.out;omega)) KpX.trans ?hKb (Zw _ _) (fun _=>rfl)
   (fun pre Wx=> ∃v,Wx.heap[b+1]?=some (.cells #[v] 57 (0,0))/\(Kd.int .i64).R 3 Wx w4.heap.size (fun _=>True) v (pre.map fun x=>dotF wb row x.1 0)/\Fd Wx g wb (fpoly wb) (fun k=>(S k\/k=W.heap.size\/some k=u8.ownBlock)\/k=b+1\/some k=v.ownBlock)/\BS w4 Wx g (fun k=>k=b+1))
   ?hI ?hHd ?h0 (fun x=> { tmps:= #[.pointer (some ⟨g,0,none⟩), .slice (some ad) n ca, .slice B m cb, .pointer (some ⟨W.heap.size,0,none⟩),undef,undef, .slice none 0 0, .int .i64 0,u8,undef, .pointer (some ⟨b,0,none⟩), .pointer (some ⟨b+1,0,none⟩), .slice (some ⟨x.2,0,none⟩) x.1.length x.1.length, .pointer (some ⟨g,0,none⟩), .slice (some ad) n ca, .bool true, .bool false, .bool false, .pointer (some ⟨g,0,none⟩), .slice B m cb, .bool true, .bool false, .bool false, .bool false, .slice (some ad) n ca, .pointer (some ad), .slice A2 m c2, .int .i64 (m:Int), .slice B m cb, .int .i64 (m:Int), .bool false, .bool false, .slice (some ad) n ca, .int .i64 (n:Int), .int .i64 (k:Int), .bool true, .pointer (some (ad.add k)), .slice A' m c', .slice B m cb, .func (.func 196) #[] #[.pointer (some ⟨b+1+1,0,none⟩)], .slice (some ⟨x.2,0,none⟩) x.1.length x.1.length,u41,u42,u43,u44,u45,u46,u47,u48,u49,u50,u51,u52,u53],defers:= [] }) ?assign ?body ?done
  case hf=>exact HFB.out
  case hx12=>rw [<-HM.out];exact HX12.out
  case hKb=>exact fun Wx l o o' hl ho _=>⟨(grownBy_putObj' Wx l o').size,fun k hk _=>World.putObj_heap_other (by omega)⟩
  case hI=>
   rintro s X Y r ⟨v,h1,h2,h3,h4⟩ hg hr;have hr': ∀q,r=some q-> ∃o:Obj,X.heap[q]?=some o/\o.isCells=false:=fun q e=>(hr q e).2
   exact ⟨v,(grownBy_keeps_cells hg hr' h1 rfl).trans h1,R_noncells h2 hg hr',Fd_noncells h3 hg hr',⟨hg.os.trans h4.os,hg.tape.trans h4.tape,hg.output.trans h4.output,Zt h4.size hg.size,fun i hi hgi hs=>(hg.block i (Zp hi h4.size) (fun e=>by have:=(hr i e.symm).1;omega)).trans (h4.block i hi hgi hs)⟩⟩
  case hHd=>
   rintro x - X Y r ⟨h0,h1⟩ hg hr;exact ⟨h0,(grownBy_keeps_cells hg (fun q e=>(hr q e).2) h1 rfl).trans h1⟩
  case h0=>exact ⟨_,HX11.out,Kd.R_nil _ _ _ _ _,HF4.out,BS.refl _ _ _⟩
  case assign=>
   intro l x Wx K hK
   gi_wp2
   exact hK
  case body=>
   rintro l pre ⟨col,cbk⟩ Wx ⟨v,h1,h2,h3,h4⟩ ⟨hx0,hx1⟩ hlen;dsimp only at hx0 hx1;have hgl4:g<w4.heap.size:=by have:=HWB.out;omega
   have hc11:Wx.cell? ⟨b+1,0,none⟩=some v:=(abz h1 0).trans rfl;have hc3:Wx.cell? ⟨W.heap.size,0,none⟩=some (.pointer (some ⟨g,0,none⟩)):=(abz (h4.blk HXb4.out (by omega) (by have:=HWB.out;omega)) 0).trans rfl;have hc10:Wx.cell? ⟨b,0,none⟩=some (.slice A' m c'):=(abz (h4.blk HX10.out (by have:=HWB.out;omega) (by omega)) 0).trans rfl;obtain ⟨gcs,hgcs⟩:=h3.cells;have hFrow:Kd.F (Kd.int .i64) Wx (NotG g) A' row.length row:=Kd.cCz (Kd.F_step HFR4.out (fun k hk hlt=>h4.block k hlt hk.1 (by have:=hk.2;omega))) (fun k hk=>hk.1);have hFcol:=F_block hgcs (by decide) hx1 (by rw [hx0];have:=HMB.out.n2;omega)
   have hSS: ∀k,((S k\/k=W.heap.size\/some k=u8.ownBlock)\/k=b+1\/some k=v.ownBlock)->k<Wx.heap.size:=by
    have s1:=h4.size;have s2:=HWB.out;have s3:=HBE.out;rintro k ((hk|hk|hk)|hk|hk)
    ·have:=HS.out k hk;omega
    ·omega
    ·have:=Kd.R_lt (Kd.S_R HO.out) k hk.symm;omega
    ·omega
    ·exact Kd.R_lt h2 k hk.symm
   have hdot:=matrix_dot.calls g _ wb A' (some ⟨cbk,0,none⟩) c' col.length row col Wx.drew HW.out (Fd.drew h3) hSS (by rw [HRL.out];have:=HMB.out.n2;have:=HM.out;omega) (by rw [HRL.out,hx0,HM.out];exact Zv _) (Kd.F_drew hFrow) (Kd.F_drew hFcol);rw [HRL.out] at hdot;have HDOT:=Za hdot;have hbase:=Kd.cbz h2
   have HEND := Za (show ∀ w6, Fd w6 g wb (fpoly wb) (fun k => (S k \/ k = W.heap.size \/ some k = u8.ownBlock) \/ k = b + 1 \/ some k = v.ownBlock) -> BB Wx w6 g -> ∃ v1 w7, (∃ ua nn uc, v1 = .slice ua nn uc) /\ (Builtin.append_ #[57, 57] 57 #[v, .slice (some ⟨w6.heap.size, 0, none⟩) 1 1]).run Tryz.prog (w6.alloc (.cells #[.int .i64 (dotF wb row col 0)] 3)) = .ok v1 w7 /\
     w6.cell? ⟨b+1,0,none⟩=some v/\w6.cell? ⟨W.heap.size,0,none⟩=some (.pointer (some ⟨g,0,none⟩))/\w6.cell? ⟨b,0,none⟩=some (.slice A' m c')/\w7.cell? ⟨b+1,0,none⟩=some v/\w7.frozen? ⟨b+1,0,none⟩=false/\
     (KeepsFrom w4.heap.size Wx (w7.setCell ⟨b+1,0,none⟩ v1)/\KpX w4.heap.size (fun k=>k=g\/k=b+1) Wx (w7.setCell ⟨b+1,0,none⟩ v1)/\
      ∃v',(w7.setCell ⟨b+1,0,none⟩ v1).heap[b+1]?=some (.cells #[v'] 57 (0,0))/\(Kd.int .i64).R 3 (w7.setCell ⟨b+1,0,none⟩ v1) w4.heap.size (fun _=>True) v' ((pre++ [(col,cbk)]).map fun x=>dotF wb row x.1 0)/\Fd (w7.setCell ⟨b+1,0,none⟩ v1) g wb (fpoly wb) (fun k=>(S k\/k=W.heap.size\/some k=u8.ownBlock)\/k=b+1\/some k=v'.ownBlock)/\BS w4 (w7.setCell ⟨b+1,0,none⟩ v1) g (fun k=>k=b+1)) by
    intro w6 q1 q3;have s1:=h4.size;have s2:=HWB.out;have s3:=q3.size;have g1:w6.heap[b+1]?=some (.cells #[v] 57 (0,0)):=(q3.block _ (a1z h1) (by omega)).trans h1;have r0:=Kd.aQz (Kd.cWz (w1:=w6) (Kd.dtz h2 hgcs (by decide)) (fun k hk hlt=>q3.block k hlt hk.2)) (ok':=fun _=>True) (fun _ _=>trivial);obtain ⟨v1,w7,hrun,r7,g7,a7⟩:=append_int_run (dotF wb row col 0) r0 (by omega) (by have:=HMB.out.c2;simp;omega);have hne:some (b+1)≠v.ownBlock:=fun e=>by have:=hbase _ e.symm;omega
    have g2:w7.heap[b+1]?=some (.cells #[v] 57 (0,0)):=(g7.block _ (a1z g1) hne).trans g1;have hsc: ∀k,k≠b+1->(w7.setCell ⟨b+1,0,none⟩ v1).heap[k]?=w7.heap[k]?:=fun k hk=>Below.heap_setCell w7 ⟨b+1,0,none⟩ v1 k hk
    have hfar: ∀k,k<w4.heap.size->k≠g->k≠b+1->(w7.setCell ⟨b+1,0,none⟩ v1).heap[k]?=Wx.heap[k]?:=fun k hk hkg hkb=>(hsc k hkb).trans ((g7.block k (by omega) (fun e=>by have:=hbase _ e.symm;omega)).trans (q3.block k (by omega) hkg))
    have hsl: ∃ua nn uc,v1= .slice ua nn uc:=by obtain ⟨ua,uc,h⟩:=Kd.bcz r7;exact ⟨ua,_,uc,h⟩
    refine ⟨v1,w7,hsl,hrun,(abz g1 0).trans rfl,?_,?_,(abz g2 0).trans rfl,bmz g2 0,?_,?_,v1,cvz g2 0 v1 rfl,?_,?_,?_⟩
    ·exact (World.cell?_of_block (q3.block _ (Zj _ _ hc3) (by show W.heap.size≠g;omega))).trans hc3
    ·exact (World.cell?_of_block (q3.block _ (Zj _ _ hc10) (by show b≠g;omega))).trans hc10
    ·refine ⟨by have:=g7.size;simp;omega,fun k o hk hko hno=> ?_⟩;have n1:k≠g:=by rintro rfl;rw [hgcs] at hko;cases hko;cases hno
     have n2:k≠b+1:=by rintro rfl;rw [h1] at hko;cases hko;cases hno
     have hk6:w6.heap[k]?=some o:=(q3.block k (a1z hko) n1).trans hko
     have n3:some k≠v.ownBlock:=fun e=>by
      obtain ⟨cells,hc⟩:=Kd.R_typed r0 k e.symm;rw [hc] at hk6;cases hk6;cases hno
     exact (hsc k n2).trans ((g7.block k (a1z hk6) n3).trans hk6)
    ·exact ⟨by have:=g7.size;simp;omega,fun k hk he=>hfar k hk (fun e=>he (.inl e)) (fun e=>he (.inr e))⟩
    ·rw [List.map_append];exact Kd.aQz (Kd.c2z (Kd.b9z r7) (fun k hk=>hsc k (by have:=hk.2.1;omega))) (fun _ _=>trivial)
    ·refine ((q1.grow (fun k e=> .inr (.inr e.symm)) g7).set (q:=⟨b+1,0,none⟩) (.inl (.inr (.inl rfl))) v1).thin (fun k hk hs=> ?_);rcases hs with hs|hs|hs
     ·exact .inl (.inl hs)
     ·exact .inl (.inr (.inl hs))
     ·rcases a7 with a7|⟨bb,a7,hbb⟩
      ·exact .inl (.inr (.inr (hs.trans a7)))
      ·rw [a7] at hs;cases hs;exact .inr hbb
    ·exact ⟨g7.os.trans (q3.os.trans h4.os),g7.tape.trans (q3.tape.trans h4.tape),g7.output.trans (q3.output.trans h4.output),by have:=g7.size;simp;omega,fun k hk hkg hs=>(hfar k hk hkg hs).trans (h4.block k hk hkg hs)⟩)
   have hmo:Tryz.prog.follows .mixedOrders=true:=by kernel_rfl
   clear h1 h2 h3 h4 hx0 hx1 hlen hgcs hFrow hFcol hSS hdot hbase hgl4
   gi_wp2
   refine startIn_ (m:=8) (S:=fun w'=>w'.cell? ⟨b+1,0,none⟩=some v/\w'.cell? ⟨W.heap.size,0,none⟩=some (.pointer (some ⟨g,0,none⟩))/\w'.cell? ⟨b,0,none⟩=some (.slice A' m c')) (ds:= [6,7]) (bA 8 0) kr_ rfl rfl kr_ (by rintro ⟨_,_,h⟩;exact h) ⟨hc11,hc3,hc10⟩ (fun hHeld=> ?_);refine pu_ 3 44 8 ?_;refine tk_ 0 41 9 hHeld ?_;refine tk_ 1 42 11 hHeld ?_;refine tk_ 2 43 15 hHeld ?_;refine one_ (i:=4) (N:=some 45) (bA 8 31) rfl rfl kr_ (by decide) (fun K hK=> ?_);refine goes_ Tryz.func185 kr_ rfl #[.pointer (some ⟨g,0,none⟩), .slice A' m c', .slice (some ⟨cbk,0,none⟩) col.length col.length] (by rfl) rfl rfl am_ ?_
   with_reducible refine (HDOT.out).mono ?_
   rintro e w6 ⟨rfl,q1,q2⟩;refine ⟨_,rfl,?_⟩;obtain ⟨v1,w7,⟨ua,nn,uc,rfl⟩,hrun,r1,r2,r3,r4,r5,r6⟩:=HEND.out w6 q1 ⟨q2.os,q2.tape,q2.output,q2.size,q2.block⟩;have R6:=Za r6;clear q1 q2 r6;refine hK.out _ _ ⟨r1,r2,r3⟩ (fun hHeld=> ?_);clear hK K;refine norm_ (a':= ?_) ?_ ?_;rotate_left
   ·show Act.put _ (some 45) _=_;simp only [Act.put,Zg,Zh,Zi,i64_w,i32_w];rfl
   refine one_ (i:=5) (N:=some 46) (bA 8 63) rfl rfl kr_ (by decide) (fun K hK=> ?_);refine ccz (w1:= ?_) (v:= ?_) (by rfl) rfl ?_ ?_;rotate_left 2
   ·go_simp;constructor
    ·rfl
    ·rfl
   refine hK.out _ _ ⟨(World.cell?_alloc_past _ _ _ (Zj _ _ r1)).trans r1,(World.cell?_alloc_past _ _ _ (Zj _ _ r2)).trans r2,(World.cell?_alloc_past _ _ _ (Zj _ _ r3)).trans r3⟩ (fun hHeld=> ?_);clear hK K;refine norm_ (a':= ?_) ?_ ?_;rotate_left
   ·show Act.put _ (some 46) _=_;simp only [Act.put,Zg,Zh,Zi,i64_w,i32_w];rfl
   refine last_ (i:=6) (N:=some 47) (bA 8 127) rfl rfl kr_ (by decide) (fun K hK=> ?_);refine ccz (w1:=w7) (v:= .slice ua nn uc) (by rfl) rfl (by simp [execOp,resolve,Deferred.ofValue,invoke,builtin,Act.eval,hrun,Result.andThen]) ?_;refine hK.out _ _ ?_;clear hK K;refine norm_ (a':= ?_) ?_ ?_;rotate_left
   ·show Act.put _ (some 47) _=_;simp only [Act.put,Zg,Zh,Zi,i64_w,i32_w];rfl
   refine last_ (i:=7) (N:=none) (bA 8 255) rfl rfl kr_ (by decide) (fun K hK=> ?_);refine skip_ (w1:= ?_) (by rfl) rfl ?_ ?_;rotate_left
   ·go_simp;rfl
   refine hK.out _ _ ?_;clear hK K;refine done_ kr_ ?_;exact R6.out
  case done=>
   rintro D xs Wx hD hxs ⟨v,h1,h2,h3,h4⟩ hDd;have hmap:(xs.map fun x=>dotF wb row x.1 0)=(transp b_ co).map fun col=>dotF wb row col 0:=by rw [<-hxs,List.map_map];rfl
   rw [hmap] at h2;have hRl:((transp b_ co).map fun col=>dotF wb row col 0).length=co:=by simp [transp]
   have HZ:=Za (show mulF wb (a.take (k+1)) b_ co=mulF wb (a.take k) b_ co++ [(transp b_ co).map fun col=>dotF wb row col 0] by
    unfold mulF
    rw [List.take_add_one,HRW.out];simp)
   generalize ((transp b_ co).map fun col=>dotF wb row col 0)=R at h2 hRl HZ;obtain ⟨va,vc,rfl⟩:=Kd.bcz h2;rw [hRl] at h1 h2 h3;have s1:=h4.size;have s2:=HWB.out;have s3:=HBE.out;obtain ⟨gcs,hgcs⟩:=HFd.out.cells;have hlz:(mulF wb (a.take k) b_ co).length<=1000:=by simp [mulF];omega
   have HLZ:=Za hlz;have hwx: ∀q,q<b->q≠g->Wx.heap[q]?=wr.heap[q]?:=fun q hq hqg=>(h4.block q (by omega) hqg (by omega)).trans (HB4.out.block q (by omega))
   have HS1:=Za (show Kd.S (dM 3 .i64) 57 Wx W.heap.size (fun k'=>True/\ ¬b<=k') u8 (mulF wb (a.take k) b_ co) from
    Kd.cBz (Kd.S_move (Kd.bLz (Kd.dKz HO.out hgcs (by decide))) (fun q hq=>hwx q (by have:=hq.2.2.1;omega) hq.1.2)) (fun q hq=>⟨trivial,by have:=hq.2.2.1;omega⟩))
   have HM1:=Za (show (dM 3 .i64).M Wx W.heap.size (fun k'=>b<=k') R [.slice va co vc] from ⟨_,rfl,Kd.bKz (Kd.aQz (Kd.b9z h2) (fun q hq=>by have:=hq.2.1;omega)) (by omega)⟩);have HOK:=Za (show∀k',b<=k'->True/\some k'≠u8.ownBlock from fun q hq=>⟨trivial,fun e=>by have:=Kd.R_lt (Kd.S_R HO.out) q e.symm;omega⟩);have hc11:Wx.cell? ⟨b+1,0,none⟩=some (.slice va co vc):=(abz h1 0).trans rfl;have H3:=Za h3;have HWX:=Za hwx;have H4:=Za h4;have HDD:=Za hDd;have HDN:=Za hD;have HSW:=Za (show W.heap.size<=Wx.heap.size by omega);clear h1 h2 h3 h4 hxs hmap hRl hgcs hlz hwx hDd hD s1 s2 s3;simp only [Exit.inBlock,Exit.then]
   go_wp2_with ((with_reducible refine anz (b:= .append) (xs:= #[.tmp 48, .tmp 50]) rfl ?_);go_must (at_builtin;refine Kd.bRz (dM 3 .i64) (w0:=Wx) W.heap.size rfl (.tmp 48) (.tmp 50) 69 57 (.slice none 0 0) 24 rfl Tryz.underlying69 kr_ rfl (by decide) (by decide) _ _ R [.slice va co vc] (fun _=>True) (fun k'=>b<=k') rfl rfl HM1.out HOK.out (fun _ _=>trivial) HS1.out (Zw _ _) HSW.out ?aL ?_;(case aL=>have:=HLZ.out;omega));intro v2 w8 ho2 hb2 hg2 hat2;have HO2:=Za ho2;have HB2:=Za hb2;have HG2:=Za hg2;have HA2:=Za hat2;clear ho2 hb2 hg2 hat2)
   have hg:Wx.grownBy w8 u8.ownBlock:=HG2.out;have hat:v2.ownBlock=u8.ownBlock\/ ∃b,v2.ownBlock=some b/\Wx.heap.size<=b:=HA2.out;have s1:=H4.out.size;have s2:=HWB.out;have s3:=HBE.out;have hty:=Kd.bGz HS1.out;obtain ⟨gcs,hgcs⟩:=HFd.out.cells
   have hDo:some D≠u8.ownBlock:=fun e=>by
    obtain ⟨cells,hc⟩:=hty D e.symm;have h:=HDD.out;rw [hc] at h;cases h
   have hDs: ∀D',D'∈Ds->w8.heap[D']?=some (.deferred (some []))/\D'<b:=fun D' hD'=>by
    have h1:=HD.out.1 D' hD';have h2:=a1z h1;have h3:D'≠g:=by rintro rfl;rw [hgcs] at h1;cases h1
    have h4:=(HWX.out D' (by omega) h3).trans h1
    have h5:some D'≠u8.ownBlock:=fun e=>by
     obtain ⟨cells,hc⟩:=hty D' e.symm;rw [hc] at h4;cases h4
    exact ⟨(hg.block D' (a1z h4) h5).trans h4,by omega⟩
   have hXx:Wx.heap[W.heap.size]?=some (.cells #[.pointer (some ⟨g,0,none⟩)] 72 (0,0)):=(HWX.out _ (by omega) (by omega)).trans HXb.out
   have hXo:some W.heap.size≠u8.ownBlock:=fun e=>by
    obtain ⟨cells,hc⟩:=hty _ e.symm;rw [hc] at hXx;injection hXx with hXx
    injection hXx with _ hXx
    exact Yf hXx (by decide)
   have hbs:=Kd.cbz (Kd.S_R HS1.out);refine ⟨⟨_,_,_,_,_,_,_,_,_,_,_,_,_,_,_,_,_,_,_,_,_,_,_,_,k+1,D::Ds,rfl,rfl,by omega,List.nodup_cons.2 ⟨fun h=>by have:=(hDs D h).2;have:=HDN.out;omega,hnd⟩,⟨fun D' hD'=> ?_,fun D' hD'=> ?_⟩,⟨by rw [HZ.out];exact HO2.out⟩,⟨?_⟩,⟨?_⟩,⟨(hg.block _ (a1z hXx) hXo).trans hXx⟩⟩,by simp [intOf];omega⟩
   ·rcases List.mem_cons.1 hD' with rfl|hD'
    ·exact (hg.block _ (a1z HDD.out) hDo).trans HDD.out
    ·exact (hDs D' hD').1
   ·rcases List.mem_cons.1 hD' with rfl|hD'
    ·have:=HDN.out;omega
    ·exact HD.out.2 D' hD'
   ·refine (H3.out.grow (fun k e=> .inl (.inr (.inr e.symm))) hg).thin (fun q hq hs=> ?_);rcases hs with hs|hs|hs
    ·exact .inl (.inl (.inl hs))
    ·exact .inl (.inl (.inr (.inl hs)))
    ·rcases hat with hat|⟨bb,hat,hbb⟩
     ·exact .inl (.inl (.inr (.inr (hs.trans hat))))
     ·rw [hat] at hs;cases hs;exact .inr hbb
   ·have q:=H4.out;exact ⟨hg.os.trans (q.os.trans (HB4.out.os.trans HBB.out.os)),hg.tape.trans (q.tape.trans (HB4.out.tape.trans HBB.out.tape)),hg.output.trans (q.output.trans (HB4.out.output.trans HBB.out.output)),by have:=hg.size;omega,fun i hi hig=>(hg.block i (by omega) (fun e=>by have:=hbs i e.symm;omega)).trans ((HWX.out i (by omega) hig).trans (HBB.out.block i hi hig))⟩
 ·obtain rfl:k=n:=by omega
  have HFN:=Za HO.out;rw [List.take_of_length_le (by rw [<-HN.out];exact Zv _)] at HFN;go_wp2;refine ehz Ds wr hnd HD.out.1 (fun w' hkp hsz hos htp hou=> ?_)
  have hcc: ∀(q:Nat) (o:Obj),wr.heap[q]?=some o->o.isCells=true->w'.heap[q]?=wr.heap[q]?:=fun q o hq ho=>hkp q (a1z hq) (fun hm=>by
   have h1:=HD.out.1 q hm
   rw [hq] at h1;cases h1;cases ho)
  refine ⟨_,results_tmp2 rfl _ _ _,_,rfl,S_keepC HFN.out hcc,(Fd_keepC HFd.out hcc).thin (fun q _ hq=> .inl hq),hos.trans HBB.out.os,htp.trans HBB.out.tape,hou.trans HBB.out.output,by rw [hsz];exact HBB.out.size,fun i hi hig=>(hkp i (Zp hi HBB.out.size) (fun hm=>by have:=HD.out.2 i hm;omega)).trans (HBB.out.block i hi hig)⟩
end Go.Proofs.Xc
end
section
namespace Go.Proofs.Xc
open Go.RowKit Go.Proofs.Pw Go.Proofs.Pl Go.Proofs.Pm
attribute [local go_sem] bfz bgz boz bpz a5z a6z bhz biz
section
variable {P : Program} {ops : Array Oper} {Q : Exit -> Act -> World -> Prop}
theorem goesV_ {oi : Oper} {N : Option Tmp} {a : Act} {w : World} {K : Act -> World -> Prop} {f : FuncId} {fn : Func} {ao : Array Operand} {ts : Array TypeId} (hf : P.funcs[f]? = some fn) (hname : (fn.name == "runtime.NumGoroutine") = false) (hb : fn.body.isSome = true) (x : Operand) (fst cap args : Array Value)
  (hx:a.eval x= .func (.func f) fst cap) (hw:Region.wanted oi (yielded ops a.tmps)=true) (hN:oi.dst=N) (hop:oi.op= .call { callee:= .value x,args:=ao,argTypes:=ts }) (hargs:fst++ao.map a.eval++cap=args)
  (h:Calls P f args w fun e w'=> ∃v,e= .returned v/\K (a.put N v) w'):if Region.wanted oi (yielded ops a.tmps)=true then Oper.wp P oi a w K Q else K (a.put N undef) w:=by
 refine call_ f args hw hN ?_ h;have he:=enters_ hf hname hb args w;unfold execOp;simp only [hop,resolve,hx,Deferred.ofValue];subst hargs
 simpa [invoke] using he
end
end Go.Proofs.Xc
end
section
namespace Go.Proofs.Xc
open Go.RowKit Go.Proofs.Pw Go.Proofs.Pl Go.Proofs.Pm
attribute [local go_sem] bfz bgz boz bpz a5z a6z bhz biz
def aGz.f (a0_0:Int) (a0_1:Int) (a0_2:Int):Option (Bool):=(blz.f a0_0).bind fun bt102=>(if bt102.2.2.2.2.2=true then (if a0_1>=1 then (if a0_1<=8 then (if a0_2>=1 then (some (decide (a0_2<=bt102.2.2.2.2.1))) else (some false)) else (some false)) else (some false)) else (some false))
theorem aGz.calls (a0_0:Int) (a0_1:Int) (a0_2:Int) (r:Bool) (w:World) (h:aGz.f a0_0 a0_1 a0_2=some r):
 Calls Tryz.prog 41 #[.agg #[.int .i64 a0_0, .int .i64 a0_1, .int .i64 a0_2]] w fun e w'=>e= .returned (.bool r)/\Below w.heap.size w w':=by
 have hu23:=Tryz.underlying23;have hu109:=Tryz.underlying109;have HB:=Za (Zw w.heap.size w);have H:=h;clear h;unfold aGz.f at H;obtain ⟨⟨t102,t103,t104,t105,t106,t107⟩,A2,H⟩:=ob_ H
 (try dsimp only at H)
 have HH:=Za H;clear H;go_enter Tryz.func41,Tryz.ntmps41
 go_wp2_with (first|((with_reducible refine a8z (N:=1) rfl ?_);refine bx_ 1 #[.int .i64 a0_0, .int .i64 a0_1, .int .i64 a0_2] 23 ?_;intro gb101 hg w7 hbox hb;have n_:=Zb (hs_ HB hb) (Zb (Za (hbox)) (Zb (ag_ HB gb101) (ag_ HB gb101)));clear HB;obtain ⟨HB,BK101,GW101,GE101⟩:=n_;clear hb hbox hg;obtain ⟨_,_,_,_,_,_⟩:=bc3_ BK101.out)|((with_reducible refine aaz (f:=75) rfl ?_);refine gl_ (some 8) Tryz.func75 #[.int .i64 a0_0] ?_;(with_reducible refine (blz.calls a0_0 t102 t103 t104 t105 t106 t107 _ A2.out).mono ?_);rintro e w9 ⟨rfl,hb⟩;refine ⟨_,rfl,?_⟩;have n_:=Zb (bb_ BK101 hb) (hs_ HB hb);clear BK101 HB;obtain ⟨BK101,HB⟩:=n_;(try clear hb))|((with_reducible refine a8z (N:=3) rfl ?_);refine b6z ?hg (N:=3) ?hd (cs:= #[.string (⟨#[]⟩:ByteArray), .int .i64 0, .int .u32 0, .int .u8 0, .int .i64 0]) (t:=109) ?hr ?_;(case hd=>rfl);(case hg=>rfl);(case hr=>first|(go_simp;done)|(go_simp;rfl));intro gb108 hg w10 hbox hb;have n_:=Zb (bb_ BK101 hb) (Zb (hs_ HB hb) (Zb (Za (hbox)) (Zb (ag_ HB gb108) (Zb (ag_ HB gb108) (Zb (n1_ BK101 gb108) (n2_ BK101 gb108))))));clear BK101 HB;obtain ⟨BK101,HB,BK108,GW108,GE108,NB101_108,NB108_101⟩:=n_;clear hb hbox hg;have hnb11:=NB108_101.out;have hnc11:=NB101_108.out;obtain ⟨_,_,_,_,_,_,_,_,_,_⟩:=bc5_ BK108.out;obtain ⟨_,_,_,_,_,_⟩:=bc3_ BK101.out))
 all_goals
  go_ret;refine ⟨congrArg (fun b=>Ending.returned (.bool b)) ?_,bl_⟩;have H:=HH.out
  simp_all
 all_goals (rw [Yb (by omega)] at H;simp_all)
theorem S_F {w:World} {e t B:Nat} {k:IntKind} {ok:Nat->Prop} {v:Value} {xs:List (List Int)} (h:Kd.S (dM e k) t w B ok v xs): ∃A c,v= .slice A xs.length c/\xs.length<=c/\Kd.F (dM e k) w ok A xs.length xs:=by
 have hR:=Kd.S_R h;obtain ⟨A,c,rfl,hle, -⟩:=Kd.dIz hR;exact ⟨A,c,rfl,hle,fun W' hW=>(Kd.aOz (Kd.cWz hR hW)).2.2⟩
theorem S_FG {w:World} {g B:Nat} {wb p:Int} {S:Nat->Prop} {v:Value} {xs:List (List Int)} (h:Kd.S (dM 3 .i64) 57 w B (fun _=>True) v xs) (hF:Fd w g wb p S): ∃A c,v= .slice A xs.length c/\xs.length<=c/\Kd.F (dM 3 .i64) w (NotG g) A xs.length xs:=by
 obtain ⟨gcs,hg⟩:=Fd.cells hF;obtain ⟨A,c,e,hle,hf⟩:=S_F (Kd.dKz h hg (by decide));exact ⟨A,c,e,hle,Kd.cCz hf (fun q hq=>hq.2)⟩
def rawM (wb:Int) (rows cols:Nat):List (List Int):=madeF (fun (i j:Nat)=>gpow wb (i:Int) (j:Int)) rows cols
def isalM (wb:Int) (rows cols:Nat):List (List Int):=madeF (fun (i j:Nat)=>gpow wb (gpow wb 2 (i:Int)) (j:Int)) rows cols
theorem Raw.calls (g : Nat) (wb : Int) (S : Nat -> Prop) (rows cols : Nat) (W : World) (hw : wb = 8 \/ wb = 16) (hF : Fd W g wb (fpoly wb) S) (hS : ∀ k, S k -> k < W.heap.size) (h1 : 1 <= rows) (h2 : rows <= 20) (h3 : 1 <= cols) (h4 : cols <= 20) :
  Calls Tryz.prog 160 #[.pointer (some ⟨g,0,none⟩), .int .i64 (rows:Int), .int .i64 (cols:Int)] W fun e w'=> ∃v,e= .returned (.tuple #[v, .int .i64 0])/\Kd.S (dM 3 .i64) 57 w' W.heap.size (fun _=>True) v (rawM wb rows cols)/\Fd w' g wb (fpoly wb) S/\BB W w' g:=by
 have HM:=Za (madeRaw.calls g W.heap.size wb S rows cols (W.alloc (.cells #[.pointer (some ⟨g,0,none⟩)] 72)) hw (hF.alloc _) (fun k hk=>by have:=hS k hk;simp;omega) (heap_alloc_new _ _) (by omega) (by omega));have e1: ¬(rows:Int)<1:=by omega
 have e2: ¬(20:Int)<(rows:Int):=by omega
 have e3: ¬(cols:Int)<1:=by omega
 have e4: ¬(20:Int)<(cols:Int):=by omega
 have hmf: ∀(fn:Fn) (first cap:Array Value) (w:World),(Instr.makeFunc fn first cap).run Tryz.prog w= .ok (.func fn first cap) w:=fun _ _ _ _=>rfl
 clear hF hS hw h1 h2 h3 h4;go_enter Tryz.func160,Tryz.ntmps160
 go_wp2_with (first|(go_at_call 120;refine HM.out.mono ?_;rintro e w3 ⟨v,rfl,q1,q2,q3⟩))
 go_ret2;exact ⟨_,rfl,Kd.cwz q1 (by simp),q2,(BB.alloc (BB.refl W g) _).trans q3⟩
theorem Isal.calls (g : Nat) (wb : Int) (S : Nat -> Prop) (k m : Nat) (W : World) (hw : wb = 8 \/ wb = 16) (hF : Fd W g wb (fpoly wb) S) (hS : ∀ k, S k -> k < W.heap.size) (h1 : 1 <= k) (h2 : 1 <= m) (h3 : k < 20) (h4 : m < 20) (h5 : k + m <= 20) :
  Calls Tryz.prog 78 #[.pointer (some ⟨g,0,none⟩), .int .i64 (k:Int), .int .i64 (m:Int)] W fun e w'=> ∃v,e= .returned (.tuple #[v, .int .i64 0])/\Kd.S (dM 3 .i64) 57 w' W.heap.size (fun _=>True) v (isalM wb m k)/\Fd w' g wb (fpoly wb) S/\BB W w' g:=by
 have HM:=Za (madeIsal.calls g W.heap.size wb S m k (W.alloc (.cells #[.pointer (some ⟨g,0,none⟩)] 72)) hw (hF.alloc _) (fun k hk=>by have:=hS k hk;simp;omega) (heap_alloc_new _ _) (by omega) (by omega));have HT:=Za (fits.calls g k m (W.alloc (.cells #[.pointer (some ⟨g,0,none⟩)] 72)) h1 h2 h3 h4 h5);have hmf: ∀(fn:Fn) (first cap:Array Value) (w:World),(Instr.makeFunc fn first cap).run Tryz.prog w= .ok (.func fn first cap) w:=fun _ _ _ _=>rfl
 clear hF hS hw h1 h2 h3 h4 h5;go_enter Tryz.func78,Tryz.ntmps78
 go_wp2_with (first|(go_at_call 119;refine HT.out.mono ?_;rintro e w3 ⟨rfl,rfl⟩)|(go_at_call 120;refine HM.out.mono ?_;rintro e w3 ⟨v,rfl,q1,q2,q3⟩))
 go_ret2;exact ⟨_,rfl,Kd.cwz q1 (by simp),q2,(BB.alloc (BB.refl W g) _).trans q3⟩
theorem eKz {wb:Int} (tf:Nat->Nat->Int) (h: ∀i j,0<=tf i j/\tf i j<fsize wb) (rows cols:Nat): ∀r,r∈madeF tf rows cols->Good wb cols r:=by
 intro r hr;simp only [madeF,List.mem_map] at hr;obtain ⟨i, -,rfl⟩:=hr;refine ⟨by simp,fun x hx=> ?_⟩;simp only [List.mem_map] at hx;obtain ⟨j, -,rfl⟩:=hx;exact h i j
theorem rawM_good {wb:Int} (hw:wb=8\/wb=16) (rows cols:Nat): ∀r,r∈rawM wb rows cols->Good wb cols r:=eKz _ (fun i j=>dXz hw _ _) rows cols
theorem rawM_length (wb:Int) (rows cols:Nat):(rawM wb rows cols).length=rows:=by simp [rawM,madeF]
def invM (wb:Int) (rows:List (List Int)):List (List Int):=(invF wb rows).1.map (·.drop rows.length)
theorem invM_good {wb:Int} (hw:wb=8\/wb=16) (rows:List (List Int)) (h: ∀r,r∈rows->Good wb rows.length r):(∀r,r∈invM wb rows->Good wb rows.length r)/\(invM wb rows).length=rows.length:=by
 have h1:=invF_good hw rows h;refine ⟨fun r hr=> ?_,by simp [invM,h1.2]⟩;simp only [invM,List.mem_map] at hr;obtain ⟨q,hq,rfl⟩:=hr;have h2:=h1.1 q hq;exact ⟨by rw [List.length_drop,h2.1];omega,fun x hx=>h2.2 x (List.mem_of_mem_drop hx)⟩
def sysM (wb:Int) (k m:Nat):List (List Int):=mulF wb (rawM wb (k+m) k) (invM wb ((rawM wb (k+m) k).take k)) k
theorem System.calls (g : Nat) (wb : Int) (S : Nat -> Prop) (k m : Nat) (W : World) (hw : wb = 8 \/ wb = 16) (hF : Fd W g wb (fpoly wb) S) (hS : ∀ k, S k -> k < W.heap.size) (h1 : 1 <= k) (h2 : 1 <= m) (h3 : k < 20) (h4 : m < 20) (h5 : k + m <= 20) (hinv : ¬ (invF wb ((rawM wb (k + m) k).take k)).2 < k) :
  Calls Tryz.prog 123 #[.pointer (some ⟨g,0,none⟩), .int .i64 (k:Int), .int .i64 (m:Int)] W fun e w'=> ∃v,e= .returned (.tuple #[v, .int .i64 0])/\Kd.S (dM 3 .i64) 57 w' W.heap.size (fun _=>True) v (sysM wb k m)/\Fd w' g wb (fpoly wb) S/\BB W w' g:=by
 have HT:=Za (fits.calls g k m W h1 h2 h3 h4 h5);have hraw:=Raw.calls g wb S (k+m) k W hw hF hS (by omega) h5 h1 (by omega);have HN:=Za (rawM_length wb (k+m) k);have HG:=Za (rawM_good hw (k+m) k);have HW:=Za hw;have HS:=Za hS;have HI:=Za hinv;have hsum:wrap64 ((k:Int)+(m:Int))=(k:Int)+(m:Int):=by unfold wrap64;omega
 rw [show ((k+m:Nat):Int)=(k:Int)+(m:Int) by omega] at hraw;have HX:=Za (show mulF wb (rawM wb (k+m) k) (invM wb ((rawM wb (k+m) k).take k)) k=sysM wb k m from rfl);generalize sysM wb k m=res at HX|-;generalize rawM wb (k+m) k=raw at hraw HN HG HI HX;have HRAW:=Za hraw;clear hraw hinv hF hS hw;go_enter Tryz.func123,Tryz.ntmps123
 go_wp2_with (first|(go_at_call 119;refine HT.out.mono ?_;rintro e w3 ⟨rfl,rfl⟩))
 go_wp2_with fail
 refine HRAW.out.mono ?_;rintro e w1 ⟨v1,rfl,q1,q2,q3⟩;obtain ⟨o,cap,rfl, -, -, -⟩:=Kd.S_form q1 (by rw [HN.out];omega);obtain ⟨A,c,he,hle,hf⟩:=S_FG q1 q2;injection he with he1 he2 he3
 subst he1;subst he3;rw [HN.out] at hle|-;have HF1:=Za q2;have HB1:=Za q3;have HFR:=Za hf;have htl:(raw.take k).length=k:=by rw [List.length_take,HN.out];omega
 have hgt: ∀r,r∈raw.take k->Good wb k r:=fun r hr=>HG.out r (List.mem_of_mem_take hr)
 have HSB:=Za (show∀q,S q->q<w1.heap.size from fun q hq=>Zp (HS.out q hq) q3.size);have hiv:=Inverse.calls g wb S (some ⟨o,0,none⟩) cap (raw.take k) w1 HW.out ⟨by omega,by omega,by omega,by omega,fun r hr=>by rw [htl];exact hgt r hr⟩ q2 HSB.out (by have:=Kd.F_now (Kd.F_take hf (show k<=raw.length by rw [HN.out];omega));exact this);have HIG:=Za (invM_good HW.out (raw.take k) (by rw [htl];exact hgt));rw [htl] at hiv HIG;rw [Yb HI.out] at hiv
 have HIV:=Za (show Calls Tryz.prog 97 #[.pointer (some ⟨g,0,none⟩), .slice (some ⟨o,0,none⟩) k cap] w1 fun e w'=> ∃v,e= .returned (.tuple #[v, .int .i64 0])/\Kd.S (dM 3 .i64) 57 w' w1.heap.size (fun _=>True) v (invM wb (raw.take k))/\Fd w' g wb (fpoly wb) S/\BB w1 w' g from hiv.mono (by
  rintro e w' ⟨v,e1,e2,e3,e4⟩;rw [Yb HI.out] at e2;refine ⟨v,e1,?_,e3,e4⟩;unfold invM;rw [htl]
  exact e2))
 have i1:(0:Int)<=(k:Int):=by omega
 have i2:(k:Int)<=(cap:Int):=by omega
 clear q1 q2 q3 hf htl hgt hiv he2
 go_wp2_with fail
 refine HIV.out.mono ?_;rintro e w2 ⟨v2,rfl,q1,q2,q3⟩;obtain ⟨A2,c2,rfl,hle2,hf2⟩:=S_FG q1 q2;have hil:=HIG.out.2;have hmul:=matrix_Mul.calls g wb S (some ⟨o,0,none⟩) A2 cap c2 k raw (invM wb (raw.take k)) w2 HW.out ⟨by rw [HN.out];omega,by rw [HN.out];omega,by omega,by omega,fun r hr=>by rw [hil];exact HG.out r hr⟩ ⟨by omega,by omega,by omega,by omega,fun r hr=>HIG.out.1 r hr⟩ q2 (fun q hq=>Zp (HSB.out q hq) q3.size) (F_bb HFR.out q3) hf2;rw [HX.out,HN.out,hil] at hmul;rw [hil];have HML:=Za hmul;have HB2:=Za (HB1.out.trans q3);have HZ:=Za (Zt HB1.out.size q3.size);clear q1 q2 q3 hf2 hil hmul hle2
 go_wp2_with (first|(go_at_call 161;refine HML.out.mono ?_;rintro e w5 ⟨v5,rfl,q1,q2,q3⟩))
 go_ret2;exact ⟨_,rfl,Kd.cwz q1 HZ.out,q2,HB2.out.trans q3⟩
theorem add_map (a k:Nat):Option.map (fun x=>x.add (k*(dM 3 .i64).sz)) (some (⟨a,0,none⟩:Addr))=some ⟨a,k,none⟩:=by
 show some ((⟨a,0,none⟩:Addr).add (k*1))=_;unfold Addr.add;split<;>simp_all
theorem rawM_take (wb:Int) (a k:Nat):(rawM wb (k+a) k).take k=rawM wb k k:=by
 unfold rawM madeF;rw [<-List.map_take,List.take_range,Nat.min_eq_left (by omega)]
theorem sys_inv: ∀k,k<9-> ¬(invF 8 (rawM 8 k k)).2<k:=by decide+kernel
def MatRes (M:List (List Int)) (m:Nat) (W:World) (g:Nat) (e:Ending) (w':World):Prop:= ∃A c,e= .returned (.tuple #[.slice A m c, .int .i64 0])/\m<=c/\Kd.F (dM 3 .i64) w' (fun q=>W.heap.size<=q) A m M/\BB W w' g
def ParRes (M:List (List Int)) (m:Nat) (W:World) (e:Ending) (w':World):Prop:= ∃A c,e= .returned (.tuple #[.slice A m c, .int .i64 0])/\m<=c/\Kd.F (dM 3 .i64) w' (fun q=>W.heap.size<=q) A m M/\Below W.heap.size W w'
theorem MatRes.of_S {W w':World} {g:Nat} {v:Value} {M:List (List Int)} {m:Nat} (hM:M.length=m) (h:Kd.S (dM 3 .i64) 57 w' W.heap.size (fun _=>True) v M) (hb:BB W w' g):MatRes M m W g (.returned (.tuple #[v, .int .i64 0])) w':=by
 obtain ⟨A,c,rfl,hl,hc⟩:=S_F (Kd.cBz (Kd.bLz h) (fun q hq=>hq.2.1));rw [hM] at hl hc|-;exact ⟨A,c,rfl,hl,hc,hb⟩
def parM (p:Int) (k m:Nat):List (List Int):=
 if p=1 then jvM 8 k m else if p=2 then cauM 16 (runL 0 m) (runL m k) else if p=3 then isalM 8 m k else if p=4 then cauM 8 (runL k m) (runL 0 k) else (sysM 8 k m).drop k
theorem pfn1 (g k m:Nat) (W:World) (hF:Fresh W g 8) (h1:1<=k) (h2:1<=m) (h3:k<=8) (h4:m<=4):Calls Tryz.prog 76 #[.pointer (some ⟨g,0,none⟩), .int .i64 (k:Int), .int .i64 (m:Int)] W (MatRes (parM 1 k m) m W g):=by
 refine (jpar.calls g 8 (fun _=>False) k m W (.inl rfl) (hF.fd _ (fun h=>h)) (fun _ h=>h.elim) h1 h2 h3 h4).mono ?_;rintro e w' ⟨A,c,rfl,q1,q2,q3,q4⟩;exact ⟨A,c,rfl,q1,Kd.cCz q2 (fun q hq=>hq.2),q4⟩
theorem pfn2 (g k m:Nat) (W:World) (hF:Fresh W g 16) (h1:1<=k) (h2:1<=m) (h3:k<=8) (h4:m<=4):Calls Tryz.prog 77 #[.pointer (some ⟨g,0,none⟩), .int .i64 (k:Int), .int .i64 (m:Int)] W (MatRes (parM 2 k m) m W g):=by
 refine (cOrig.calls g 16 (fun _=>False) k m W (.inr rfl) (hF.fd _ (fun h=>h)) (fun _ h=>h.elim) h1 h2 h3 h4).mono ?_;rintro e w' ⟨v,rfl,q1,q2,q3⟩;exact MatRes.of_S (M:=parM 2 k m) (show (cauM 16 (runL 0 m) (runL m k)).length=m by simp [cauM,runL]) q1 q3
theorem pfn3 (g k m:Nat) (W:World) (hF:Fresh W g 8) (h1:1<=k) (h2:1<=m) (h3:k<=8) (h4:m<=4):Calls Tryz.prog 78 #[.pointer (some ⟨g,0,none⟩), .int .i64 (k:Int), .int .i64 (m:Int)] W (MatRes (parM 3 k m) m W g):=by
 refine (Isal.calls g 8 (fun _=>False) k m W (.inl rfl) (hF.fd _ (fun h=>h)) (fun _ h=>h.elim) h1 h2 (by omega) (by omega) (by omega)).mono ?_;rintro e w' ⟨v,rfl,q1,q2,q3⟩;exact MatRes.of_S (M:=parM 3 k m) (show (isalM 8 m k).length=m by simp [isalM,madeF]) q1 q3
theorem pfn4 (g k m:Nat) (W:World) (hF:Fresh W g 8) (h1:1<=k) (h2:1<=m) (h3:k<=8) (h4:m<=4):Calls Tryz.prog 79 #[.pointer (some ⟨g,0,none⟩), .int .i64 (k:Int), .int .i64 (m:Int)] W (MatRes (parM 4 k m) m W g):=by
 refine (cIsal.calls g 8 (fun _=>False) k m W (.inl rfl) (hF.fd _ (fun h=>h)) (fun _ h=>h.elim) h1 h2 h3 h4).mono ?_;rintro e w' ⟨v,rfl,q1,q2,q3⟩;exact MatRes.of_S (M:=parM 4 k m) (show (cauM 8 (runL k m) (runL 0 k)).length=m by simp [cauM,runL]) q1 q3
theorem behind.calls (g k m:Nat) (W:World) (hF:Fresh W g 8) (h1:1<=k) (h2:1<=m) (h3:k<=8) (h4:m<=4):Calls Tryz.prog 80 #[.pointer (some ⟨g,0,none⟩), .int .i64 (k:Int), .int .i64 (m:Int)] W (MatRes ((sysM 8 k m).drop k) m W g):=by
 have HS:=Za (System.calls g 8 (fun _=>False) k m W (.inl rfl) (hF.fd _ (fun h=>h)) (fun _ h=>h.elim) h1 h2 (by omega) (by omega) (by omega) (by rw [rawM_take];exact sys_inv k (by omega)));have HL:=Za (show (sysM 8 k m).length=k+m by simp [sysM,mulF,rawM,madeF]);generalize sysM 8 k m=M at HS HL|-;obtain ⟨n,hn⟩: ∃n,k+m=n:=⟨_,rfl⟩;rw [hn] at HL;have hnm:n - k=m:=by omega
 have e1:(0:Int)<=(k:Int):=by omega
 have e2:(k:Int)<=(n:Int):=by omega
 have e3:k<n:=by omega
 clear hF h1 h2 h3 h4 hn;go_enter Tryz.func80,Tryz.ntmps80
 go_wp2_with fail
 refine HS.out.mono ?_;rintro e w1 ⟨v,rfl,q1,q2,q3⟩;obtain ⟨a,c,rfl, -, -, -⟩:=Kd.S_form q1 (by rw [HL.out];omega);obtain ⟨-,hl,hc⟩:=Kd.cOz q1;have f1: ¬c=k:=by have:=HL.out;omega
 have hf:=Kd.S_F (Kd.cBz (Kd.bLz q1) (fun q hq=>hq.2.1));have HD:=Za (Kd.F_imp hf (fun W' hc'=>Kd.C_drop hc' (m:=k) (c:=c) (by rw [HL.out];omega) hl));rw [Yb f1,List.length_drop,HL.out,hnm,add_map] at HD;have HC:=Za (show m<=c - k by have:=HL.out;omega);have HB:=Za q3;rw [HL.out];clear q1 q2 q3 hl hc hf HS HL;go_wp2;go_ret2;exact ⟨_,_,rfl,HC.out,HD.out,HB.out⟩
theorem pfn5 (g k m:Nat) (W:World) (hF:Fresh W g 8) (h1:1<=k) (h2:1<=m) (h3:k<=8) (h4:m<=4):Calls Tryz.prog 80 #[.pointer (some ⟨g,0,none⟩), .int .i64 (k:Int), .int .i64 (m:Int)] W (MatRes (parM 5 k m) m W g):=behind.calls g k m W hF h1 h2 h3 h4
theorem pfn6 (g k m:Nat) (W:World) (hF:Fresh W g 8) (h1:1<=k) (h2:1<=m) (h3:k<=8) (h4:m<=4):Calls Tryz.prog 80 #[.pointer (some ⟨g,0,none⟩), .int .i64 (k:Int), .int .i64 (m:Int)] W (MatRes (parM 6 k m) m W g):=behind.calls g k m W hF h1 h2 h3 h4
def pwArr:Array Value:= #[.func (.func 76) #[] #[], .func (.func 77) #[] #[], .func (.func 78) #[] #[], .func (.func 79) #[] #[], .func (.func 80) #[] #[], .func (.func 80) #[] #[]]
theorem pway (p : Int) (q : Nat) (F : FuncId) (fn : Func) (hfn : Tryz.prog.funcs[F]? = some fn) (hnm : (fn.name == "runtime.NumGoroutine") = false) (hbd : fn.body.isSome = true) (hq : p = (q : Int) + 1) (hq6 : q < 6) (hcell : pwArr[q]? = some (.func (.func F) #[] #[])) (k m : Nat) (res : List (List Int)) (W : World) (hm : aGz.f p (k : Int) (m : Int) = some true) (hp : ∀ g W', Fresh W' g (pbits p) -> Calls Tryz.prog F #[.pointer (some ⟨g, 0, none⟩), .int .i64 (k : Int), .int .i64 (m : Int)] W' (MatRes res m W' g)) :
  Calls Tryz.prog 44 #[.agg #[.int .i64 p, .int .i64 (k:Int), .int .i64 (m:Int)]] W (ParRes res m W):=by
 have HM:=Za hm;have HP:=Za hp;have HFN:=Za hfn;have HNM:=Za hnm;have HBD:=Za hbd;have HCL:=Za hcell;have HFD:=Za (eQz.calls p (by omega));have hwq:wrap64 (p - 1)=(q:Int):=by unfold wrap64;omega
 have hb:=heap_alloc_new W (.cells #[.int .i64 p, .int .i64 (k:Int), .int .i64 (m:Int)] 23);have HB:=Za (show Below W.heap.size W (W.alloc (.cells #[.int .i64 p, .int .i64 (k:Int), .int .i64 (m:Int)] 23)) from amz (Zw _ _) _);have hu:=Tryz.underlying23;have h60:(0:Int)<=(q:Int):=by omega
 have h61:(q:Int)<6:=by omega
 clear hm hp hfn hnm hbd hcell hq;go_enter Tryz.func44,Tryz.ntmps44
 go_wp2_with fail
 generalize W.alloc (.cells #[.int .i64 p, .int .i64 (k:Int), .int .i64 (m:Int)] 23)=w1 at HB hb|-;have HX:=Za hb;clear hb;refine (aGz.calls p (k:Int) (m:Int) true _ HM.out).mono ?_;rintro e w2 ⟨rfl,hB2⟩;have HB2:=Za (HB.out.trans (hB2.mono HB.out.size));have HX2:=Za (aJz HX.out hB2);have HZ2:=Za hB2.size;obtain ⟨fb,hfb⟩: ∃fb,fb=W.heap.size:=⟨_,rfl⟩;rw [<-hfb] at HX2|-;clear hB2 hfb
 go_wp2_with fail
 have HA:=Za (heap_alloc_new w2 (.cells pwArr 113));have HX3:=Za (aJz HX2.out (amz (Zw w2.heap.size w2) (.cells pwArr 113)));have HB3:=Za (amz HB2.out (.cells pwArr 113));obtain ⟨ab,hab⟩: ∃ab,ab=w2.heap.size:=⟨_,rfl⟩;rw [<-hab] at HA|-;clear hab HX2 HB2;rw [show (#[.func (.func 76) #[] #[], .func (.func 77) #[] #[], .func (.func 78) #[] #[], .func (.func 79) #[] #[], .func (.func 80) #[] #[], .func (.func 80) #[] #[]] :Array Value)=pwArr from rfl];generalize w2.alloc (.cells pwArr 113)=w3 at HA HX3 HB3|-;have c0:w3.cell? ⟨fb,0,none⟩=some (.int .i64 p):=(abz HX3.out 0).trans rfl;have c1:w3.cell? ⟨fb,1,none⟩=some (.int .i64 (k:Int)):=(abz HX3.out 1).trans rfl;have c2:w3.cell? ⟨fb,2,none⟩=some (.int .i64 (m:Int)):=(abz HX3.out 2).trans rfl;have c3:w3.cell? ⟨ab,q,none⟩=some (.func (.func F) #[] #[]):=(abz HA.out q).trans HCL.out;refine bPz (n:=17) (S:=fun w'=>w'.cell? ⟨fb,0,none⟩=some (.int .i64 p)/\w'.cell? ⟨fb,1,none⟩=some (.int .i64 (k:Int))/\w'.cell? ⟨fb,2,none⟩=some (.int .i64 (m:Int))/\w'.cell? ⟨ab,q,none⟩=some (.func (.func F) #[] #[])) (ds:= [12]) (bA 17 0) kr_ rfl rfl ⟨c0,c1,c2,c3⟩ (fun hHeld=> ?_)
 refine pu_ 0 9 1 ?_;refine pu_ 5 14 33 ?_;refine pu_ 8 17 289 ?_;refine pu_ 10 19 1313 ?_;refine tk_ 1 10 1315 hHeld ?_;refine pu_ 2 11 1319 ?_;refine pu_ 3 12 1327 ?_;refine tk_ 4 13 1343 hHeld ?_;refine tk_ 6 15 1407 hHeld ?_;refine tk_ 9 18 1919 hHeld ?_;refine tk_ 11 20 3967 hHeld ?_;refine one_ (i:=7) (N:=some 16) (bA 17 4095) rfl rfl kr_ (by decide) (fun K hK=> ?_);refine goes_ Tryz.func45 kr_ rfl #[.int .i64 p] (by rfl) rfl rfl am_ ?_
 with_reducible refine (HFD.out w3.drew).mono ?_
 rintro e w4 ⟨g,rfl,q1,q2,q3⟩;refine ⟨_,rfl,?_⟩;refine hK.out _ _ ⟨bBz q3 c0,bBz q3 c1,bBz q3 c2,bBz q3 c3⟩ (fun hHeld=> ?_);clear hK K;refine norm_ (a':= ?_) ?_ ?_;rotate_left
 ·show Act.put _ (some 16) _=_;simp only [Act.put,Zg,Zh,Zi,i64_w,i32_w];rfl
 refine last_ (i:=12) (N:=some 21) (bA 17 8191) rfl rfl kr_ (by decide) (fun K hK=> ?_);refine goesV_ HFN.out HNM.out HBD.out (.tmp 13) #[] #[] #[.pointer (some ⟨g,0,none⟩), .int .i64 (k:Int), .int .i64 (m:Int)] (by rfl) (by rfl) rfl rfl am_ ?_
 with_reducible refine (HP.out g w4 q1).mono ?_
 rintro e w5 ⟨A,c,rfl,p1,p2,p3⟩;refine ⟨_,rfl,?_⟩;refine hK.out _ _ ?_;clear hK K;refine norm_ (a':= ?_) ?_ ?_;rotate_left
 ·show Act.put _ (some 21) _=_;simp only [Act.put,Zg,Zh,Zi,i64_w,i32_w];rfl
 refine pu_ 13 22 16383 ?_;refine pu_ 14 23 32767 ?_;refine pu_ 15 2 65535 ?_;refine pu_ 16 3 131071 ?_;refine done_ kr_ ?_;clear hwq;go_wp2;go_ret2;exact ⟨_,_,rfl,p1,Kd.cCz p2 (fun q hq=>Zt HB3.out.size (Zt q3.size hq)),p3.below ((show Below W.heap.size W w3.drew from cDz HB3.out).trans (q3.mono HB3.out.size)) (Zt HB3.out.size q2)⟩
theorem pway1 (k m : Nat) (W : World) (h1 : 1 <= k) (h2 : 1 <= m) (h3 : k <= 8) (h4 : m <= 4) (hm : aGz.f 1 (k : Int) (m : Int) = some true) :
  Calls Tryz.prog 44 #[.agg #[.int .i64 1, .int .i64 (k:Int), .int .i64 (m:Int)]] W (ParRes (parM 1 k m) m W):=
 pway 1 0 76 _ Tryz.func76 kr_ rfl rfl (by decide) rfl k m _ W hm (fun g W' h=>pfn1 g k m W' (by rwa [show pbits 1=8 by simp [pbits]] at h) h1 h2 h3 h4)
theorem pway2 (k m : Nat) (W : World) (h1 : 1 <= k) (h2 : 1 <= m) (h3 : k <= 8) (h4 : m <= 4) (hm : aGz.f 2 (k : Int) (m : Int) = some true) :
  Calls Tryz.prog 44 #[.agg #[.int .i64 2, .int .i64 (k:Int), .int .i64 (m:Int)]] W (ParRes (parM 2 k m) m W):=
 pway 2 1 77 _ Tryz.func77 kr_ rfl rfl (by decide) rfl k m _ W hm (fun g W' h=>pfn2 g k m W' (by rwa [show pbits 2=16 by simp [pbits]] at h) h1 h2 h3 h4)
theorem pway3 (k m : Nat) (W : World) (h1 : 1 <= k) (h2 : 1 <= m) (h3 : k <= 8) (h4 : m <= 4) (hm : aGz.f 3 (k : Int) (m : Int) = some true) :
  Calls Tryz.prog 44 #[.agg #[.int .i64 3, .int .i64 (k:Int), .int .i64 (m:Int)]] W (ParRes (parM 3 k m) m W):=
 pway 3 2 78 _ Tryz.func78 kr_ rfl rfl (by decide) rfl k m _ W hm (fun g W' h=>pfn3 g k m W' (by rwa [show pbits 3=8 by simp [pbits]] at h) h1 h2 h3 h4)
theorem pway4 (k m : Nat) (W : World) (h1 : 1 <= k) (h2 : 1 <= m) (h3 : k <= 8) (h4 : m <= 4) (hm : aGz.f 4 (k : Int) (m : Int) = some true) :
  Calls Tryz.prog 44 #[.agg #[.int .i64 4, .int .i64 (k:Int), .int .i64 (m:Int)]] W (ParRes (parM 4 k m) m W):=
 pway 4 3 79 _ Tryz.func79 kr_ rfl rfl (by decide) rfl k m _ W hm (fun g W' h=>pfn4 g k m W' (by rwa [show pbits 4=8 by simp [pbits]] at h) h1 h2 h3 h4)
theorem pway5 (k m : Nat) (W : World) (h1 : 1 <= k) (h2 : 1 <= m) (h3 : k <= 8) (h4 : m <= 4) (hm : aGz.f 5 (k : Int) (m : Int) = some true) :
  Calls Tryz.prog 44 #[.agg #[.int .i64 5, .int .i64 (k:Int), .int .i64 (m:Int)]] W (ParRes (parM 5 k m) m W):=
 pway 5 4 80 _ Tryz.func80 kr_ rfl rfl (by decide) rfl k m _ W hm (fun g W' h=>pfn5 g k m W' (by rwa [show pbits 5=8 by simp [pbits]] at h) h1 h2 h3 h4)
theorem pway6 (k m : Nat) (W : World) (h1 : 1 <= k) (h2 : 1 <= m) (h3 : k <= 8) (h4 : m <= 4) (hm : aGz.f 6 (k : Int) (m : Int) = some true) :
  Calls Tryz.prog 44 #[.agg #[.int .i64 6, .int .i64 (k:Int), .int .i64 (m:Int)]] W (ParRes (parM 6 k m) m W):=
 pway 6 5 80 _ Tryz.func80 kr_ rfl rfl (by decide) rfl k m _ W hm (fun g W' h=>pfn6 g k m W' (by rwa [show pbits 6=8 by simp [pbits]] at h) h1 h2 h3 h4)
theorem eLz {wb:Int} (hw:wb=8\/wb=16) (a:Int):0<=ginv wb a/\ginv wb a<fsize wb:=by
 unfold ginv;split
 ·rcases hw with rfl|rfl
  ·exact dXz (.inl rfl) a 254
  ·exact dXz (.inr rfl) a 65534
 ·rcases hw with rfl|rfl<;>decide
theorem cauM_good {wb:Int} (hw:wb=8\/wb=16) (x y:List Int): ∀r,r∈cauM wb x y->Good wb y.length r:=by
 intro r hr;obtain ⟨a, -,rfl⟩:=List.mem_map.1 hr;refine ⟨by simp,fun z hz=> ?_⟩;obtain ⟨b, -,rfl⟩:=List.mem_map.1 hz;exact eLz hw _
theorem eiz {wb:Int} {L:Nat} {r:List Int} (h:Good wb L r) (j:Nat) {x:Int} (hx:0<=x/\x<fsize wb):Good wb L (r.set j x):=by
 refine ⟨by rw [List.length_set];exact h.1,fun y hy=> ?_⟩;rcases List.mem_or_eq_of_mem_set hy with h1|rfl
 ·exact h.2 y h1
 ·exact hx
theorem getD_good {wb:Int} (hw:wb=8\/wb=16) {L:Nat} {r:List Int} (h:Good wb L r) (j:Nat):0<=r.getD j 0/\r.getD j 0<fsize wb:=by
 rw [Zm]
 cases e:r[j]? with
 |none=>rcases hw with rfl|rfl<;>decide
 |some x=>exact h.2 x (Zo e)
theorem dotF_range {wb:Int} (hw:wb=8\/wb=16): ∀(a b:List Int) (s:Int),(0<=s/\s<fsize wb)->0<=dotF wb a b s/\dotF wb a b s<fsize wb
 | [],_,s,h=>by unfold dotF;exact h
 |_::_, [],s,h=>by unfold dotF;exact h
 |x::a,y::b,s,h=>by unfold dotF;exact dotF_range hw a b _ (euz hw h (bHz hw _ _))
theorem sysM_good (k m:Nat): ∀r,r∈sysM 8 k m->Good 8 k r:=by
 intro r hr;unfold sysM mulF at hr;obtain ⟨row, -,rfl⟩:=List.mem_map.1 hr;refine ⟨by simp [transp],fun z hz=> ?_⟩;obtain ⟨col, -,rfl⟩:=List.mem_map.1 hz;exact dotF_range (.inl rfl) _ _ 0 (by decide)
section
variable {wb : Int} (hw : wb = 8 \/ wb = 16) {L : Nat}
include hw
theorem swpF_good {i:Nat} {rows:List (List Int)} (h: ∀r,r∈rows->Good wb L r): ∀r,r∈swpF i rows->Good wb L r:=by
 unfold swpF;split
 ·exact h
 ·intro r hr;obtain ⟨q,hq,rfl⟩:=List.mem_map.1 hr;exact eiz (eiz (h q hq) _ (getD_good hw (h q hq) _)) _ (getD_good hw (h q hq) _)
theorem sclF_good {c:Int} {f j:Nat} {rows:List (List Int)} (h: ∀r,r∈rows->Good wb L r): ∀r,r∈sclF wb c f j rows->Good wb L r:=by
 intro r hr;unfold sclF sclTo at hr;rcases List.mem_append.1 hr with hr|hr
 ·exact h r (List.mem_of_mem_take hr)
 ·rcases List.mem_append.1 hr with hr|hr
  ·obtain ⟨q,hq,rfl⟩:=List.mem_map.1 hr;exact eiz (h q (List.mem_of_mem_drop (List.mem_of_mem_take hq))) _ (bHz hw _ _)
  ·exact h r (List.mem_of_mem_drop (List.mem_of_mem_drop hr))
theorem cutF_good {i:Nat} : ∀(cs:List Int) (j:Nat) (rows:List (List Int)),(∀r,r∈rows->Good wb L r)-> ∀r,r∈cutF wb i cs j rows->Good wb L r
 | [],_,_,h=>h
 |c::cs,j,rows,h=>by
  unfold cutF;refine cutF_good cs (j+1) _ ?_;unfold cutCol;split
  ·exact h
  ·intro r hr;obtain ⟨q,hq,rfl⟩:=List.mem_map.1 hr;exact eiz (h q hq) _ (euz hw (getD_good hw (h q hq) _) (bHz hw _ _))
theorem stepsF_good {rows:List (List Int)} (h: ∀r,r∈rows->Good wb L r): ∀i, ∀r,r∈stepsF wb i rows->Good wb L r
 |0=>h
 |i+1=>by
  unfold stepsF stepF;exact cutF_good hw _ _ _ (sclF_good hw (swpF_good hw (stepsF_good h i)))
theorem colsF_good {k:Nat} {rows:List (List Int)} (h: ∀r,r∈rows->Good wb L r): ∀j, ∀r,r∈colsF wb k j rows->Good wb L r
 |0=>h
 |j+1=>by
  unfold colsF;exact sclF_good hw (colsF_good h j)
end
theorem jvM_good {wb:Int} (hw:wb=8\/wb=16) (k m:Nat) (h1:1<=k) (h2:1<=m):(∀r,r∈jvM wb k m->Good wb k r)/\(jvM wb k m).length=m:=by
 have he: ∀r,r∈extM wb k m->Good wb k r:=by
  intro r hr;unfold extM at hr;rcases List.mem_append.1 hr with hr|hr
  ·exact eKz _ (fun i j=>dXz hw _ _) _ _ r hr
  ·rw [List.mem_singleton.1 hr];unfold lastU;refine eiz ⟨by simp,fun x hx=> ?_⟩ _ (by rcases hw with rfl|rfl<;>decide);rw [(List.mem_replicate.1 hx).2];rcases hw with rfl|rfl<;>decide
 have hc:=colsF_good hw (k:=k) (stepsF_good hw he k) k
 have hl:(colsF wb k k (stepsF wb k (extM wb k m))).length=k+m:=by
  rw [(eJz (wb:=wb) (k:=k) (dTz (wb:=wb) (ewz wb k m h1 h2).1 k).1 k).2,(dTz (wb:=wb) (ewz wb k m h1 h2).1 k).2,(ewz wb k m h1 h2).2]
 unfold jvM;generalize colsF wb k k (stepsF wb k (extM wb k m))=R at hc hl;refine ⟨fun r hr=> ?_,by simp [hl];omega⟩;rcases List.mem_append.1 hr with hr|hr
 ·exact hc r (List.mem_of_mem_drop (List.mem_of_mem_take hr))
 ·obtain ⟨q,hq,rfl⟩:=List.mem_map.1 hr;have hg:=hc q (List.mem_of_mem_drop (List.mem_of_mem_drop hq));refine ⟨by unfold rowInv;rw [List.length_map];exact hg.1,fun x hx=> ?_⟩;obtain ⟨y, -,rfl⟩:=List.mem_map.1 hx;exact bHz hw _ _
theorem dYz (p:Int) (k m:Nat) (h1:1<=k) (h2:1<=m) (h3:k<=8) (h4:m<=4):(∀r,r∈parM p k m->Good (pbits p) k r)/\(parM p k m).length=m:=by
 unfold parM pbits;by_cases e1:p=1
 ·subst e1;exact jvM_good (.inl rfl) k m h1 h2
 ·rw [Yb e1];by_cases e2:p=2
  ·rw [Ya e2,Ya e2];refine ⟨fun r hr=> ?_,by simp [cauM,runL]⟩;have:=cauM_good (.inr rfl) _ _ r hr;rwa [bFz] at this
  ·rw [Yb e2,Yb e2];by_cases e3:p=3
   ·rw [Ya e3];exact ⟨eKz _ (fun i j=>dXz (.inl rfl) _ _) m k,by simp [isalM,madeF]⟩
   ·rw [Yb e3];by_cases e4:p=4
    ·rw [Ya e4];refine ⟨fun r hr=> ?_,by simp [cauM,runL]⟩;have:=cauM_good (.inl rfl) _ _ r hr;rwa [bFz] at this
    ·rw [Yb e4];exact ⟨fun r hr=>sysM_good k m r (List.mem_of_mem_drop hr),by simp [sysM,mulF,rawM,madeF]⟩
end Go.Proofs.Xc
end
section
namespace Go.Proofs.Xc
open Go.RowKit Go.Proofs.Pw Go.Proofs.Pl Go.Proofs.Pm
attribute [local go_sem] bfz bgz boz bpz a5z a6z bhz biz
theorem cJz {p k m:Int} (h:aGz.f p k m=some true):1<=p/\p<=6/\1<=k/\k<=8/\1<=m/\m<=4:=by
 unfold aGz.f at h;by_cases hp:1<=p/\p<=6
 ·obtain ⟨h1,h2⟩:=hp;have:p=1\/p=2\/p=3\/p=4\/p=5\/p=6:=by omega
  rcases this with rfl|rfl|rfl|rfl|rfl|rfl
  all_goals
   simp only [blz.f] at h;by_cases c1:k>=1
   ·by_cases c2:k<=8
    ·by_cases c3:m>=1
     ·simp [c1,c2,c3] at h;omega
     ·simp [c1,c2,c3] at h
    ·simp [c1,c2] at h
   ·simp [c1] at h
 ·have : blz.f p = some (ByteArray.empty, 0, 0, 0, 0, false) := by
   unfold blz.f;simp only [not_and] at hp
   repeat (first|rw [Yb (by omega)] |rfl)
  rw [this] at h;simp at h
theorem ejz (p k m:Int): ∃b,aGz.f p k m=some b:=by
 unfold aGz.f
 obtain ⟨x,hx⟩: ∃x,blz.f p=some x:=by
  unfold blz.f
  repeat' split
  all_goals exact ⟨_,rfl⟩
 rw [hx];simp only [Zl]
 repeat' split
 all_goals exact ⟨_,rfl⟩
theorem ddz.ok (p k m : Int) (W : World) (h : aGz.f p k m = some true) :
  Calls Tryz.prog 44 #[.agg #[.int .i64 p, .int .i64 k, .int .i64 m]] W (ParRes (parM p k.toNat m.toNat) m.toNat W):=by
 obtain ⟨p1,p2,k1,k2,m1,m2⟩:=cJz h;obtain ⟨k,rfl⟩:=Int.eq_ofNat_of_zero_le (show 0<=k by omega);obtain ⟨m,rfl⟩:=Int.eq_ofNat_of_zero_le (show 0<=m by omega);simp only [Zu];have:p=1\/p=2\/p=3\/p=4\/p=5\/p=6:=by omega
 rcases this with rfl|rfl|rfl|rfl|rfl|rfl
 ·exact pway1 k m W (by omega) (by omega) (by omega) (by omega) h
 ·exact pway2 k m W (by omega) (by omega) (by omega) (by omega) h
 ·exact pway3 k m W (by omega) (by omega) (by omega) (by omega) h
 ·exact pway4 k m W (by omega) (by omega) (by omega) (by omega) h
 ·exact pway5 k m W (by omega) (by omega) (by omega) (by omega) h
 ·exact pway6 k m W (by omega) (by omega) (by omega) (by omega) h
theorem ddz.no (p k m : Int) (W : World) (h : aGz.f p k m = some false) :
  Calls Tryz.prog 44 #[.agg #[.int .i64 p, .int .i64 k, .int .i64 m]] W fun e w'=>e= .returned (.tuple #[.slice none 0 0, .int .i64 1])/\Below W.heap.size W w':=by
 have HM:=Za h;have HB:=Za (show Below W.heap.size W (W.alloc (.cells #[.int .i64 p, .int .i64 k, .int .i64 m] 23)) from amz (Zw _ _) _);have hu:=Tryz.underlying23;clear h;go_enter Tryz.func44,Tryz.ntmps44
 go_wp2_with fail
 refine (aGz.calls p k m false _ HM.out).mono ?_;rintro e w2 ⟨rfl,hB2⟩;have HB2:=Za (HB.out.trans (hB2.mono HB.out.size));clear hB2;go_wp2;go_ret2;exact ⟨rfl,HB2.out⟩
def byteF (wb a:Int):List Int:=if wb=8 then [a % 256] else [a % 256,a / 256 % 256]
def bytesF (wb:Int) (l:List Int):List Int:=l.flatMap (byteF wb)
theorem bytesF_take (wb:Int) (l:List Int) (k:Nat) (a:Int) (h:l[k]?=some a):bytesF wb (l.take (k+1))=bytesF wb (l.take k)++byteF wb a:=by
 unfold bytesF;rw [List.take_add_one,h,List.flatMap_append];simp
theorem eRz (wb:Int): ∀l:List Int,(bytesF wb l).length<=2*l.length
 | [] =>by simp [bytesF]
 |a::l=>by
  have h1:=eRz wb l;have h2:(byteF wb a).length<=2:=by unfold byteF;split<;>simp
  have h3:bytesF wb (a::l)=byteF wb a++bytesF wb l:=by unfold bytesF;rw [List.flatMap_cons]
  rw [h3,List.length_append,List.length_cons];omega
theorem rBytes.calls (g : Nat) (wb p : Int) (S : Nat -> Prop) (A : Option Addr) (c : Nat) (l : List Int) (W : World) (hw : wb = 8 \/ wb = 16) (hF : Fd W g wb p S) (hl : Kd.C (Kd.int .i64) W A l.length l) (hlen : l.length <= 1000000) (hin : ∀ a, a ∈ l -> 0 <= a /\ a < fsize wb) :
  Calls Tryz.prog 104 #[.pointer (some ⟨g,0,none⟩), .slice A l.length c] W fun e w'=> ∃v,e= .returned (.tuple #[v, .int .i64 0])/\(Kd.int .u8).R 5 w' W.heap.size (fun _=>True) v (bytesF wb l)/\Below W.heap.size W w':=by
 have HF:=Za hF;have HW:=Za hw;have HL:=Za hl;have HIN:=Za hin;obtain ⟨n,hn⟩: ∃n,l.length=n:=⟨_,rfl⟩;have HLEN:=Za hn;rw [hn] at hlen HL|-;clear hF hw hl hin hn;go_enter Tryz.func104,Tryz.ntmps104;go_wp2
 go_loopw [6,13] (fun v iv wr=> ∃k:Nat,k<=n/\iv= .int .i64 (k:Int)/\Aside0 ((Kd.int .u8).R 5 wr W.heap.size (fun _=>True) v (bytesF wb (l.take k)))/\Aside0 (Below W.heap.size W wr)) (fun _ iv _=>n - (intOf iv).toNat)
 case atStart=>exact ⟨0,Nat.zero_le _,rfl,⟨Kd.R_nil _ _ _ _ _⟩,⟨Zw _ _⟩⟩
 obtain ⟨w3,rfl⟩: ∃w3,w3=wr:=⟨_,rfl⟩;obtain ⟨k,hk,rfl,HR,HB⟩:=hrel;by_cases hlt:k<n
 ·obtain ⟨a,ha⟩: ∃x,l[k]?=some x:=⟨_,Zf (by have:=HLEN.out;omega)⟩;obtain ⟨ad,rfl,hc1⟩:=ckz (Kd.aIz (HLEN.out.symm▸HL.out) HB.out) k a ha;have hr:=HIN.out a (Zo ha);have HT:=Za (bytesF_take wb l k a ha)
  have HLL:=Za (show (bytesF wb (l.take k)).length<=3000000 by
   have h1:=eRz wb (l.take k);have h2:=List.length_take_le k l
   omega)
  have hr1:=hr.1
  have hr2:a<65536:=by have:=hr.2;rcases HW.out with rfl|rfl<;>simp [fsize] at this<;>omega
  have HI:=Za (show inF wb a=true by unfold inF;rw [Zd hr.1,Zd hr.2];rfl);have HRI:=Za (rin.calls g wb p a S w3 HW.out (HF.out.below HB.out));rw [HI.out] at HRI;have HBI:=Za (fun w' (h:Below W.heap.size W w')=>gf_Bits.calls g wb p S w' (HF.out.below h));have HZ:=Za (show W.heap.size<=w3.heap.size from HB.out.size);generalize bytesF wb (l.take k)=pre at HR HT HLL;clear ha hr
  go_wp2_with fail
  refine HRI.out.mono ?_;rintro e w4 ⟨rfl,m4,rfl⟩;have HR4:=Za (Kd.c7z HR.out m4);have HB4:=Za (aWz HB.out m4);have HZ4:=Za (show W.heap.size<=(w3.drewN m4).heap.size from HZ.out);generalize w3.drewN m4=w4 at HR4 HB4 HZ4|-;clear HRI;have e1:0<=a % 256:=by omega
  have e2:0<=a / 256:=by omega
  have HTW:=Za (show byteF 8 a= [a % 256] /\byteF 16 a= [a % 256] ++ [a / 256] from ⟨by simp [byteF],by simp [byteF];omega⟩);have HL2:=Za (show (pre++ [a % 256]).length<=3000001 by have:=HLL.out;simp;omega);rcases HW.out with rfl|rfl
  ·rw [HTW.out.1] at HT
   go_wp2_with ((with_reducible refine anz (b:= .append) (xs:= #[.tmp 21, .tmp 24]) rfl ?_);go_must (at_builtin;refine Kd.bnz (Kd.int .u8) (w0:=w4) W.heap.size rfl (.tmp 21) (.tmp 24) 34 5 (.int .u8 0) 1 rfl Tryz.underlying34 kr_ rfl (by decide) (by decide) _ _ (a % 256) [.int .u8 (a % 256)] (fun _=>True) (fun _=>False) rfl rfl rfl (fun _ h=>h.elim) (fun _ _=>trivial) HR4.out (Zw _ _) HZ4.out ?aL ?_;(case aL=>have:=HLL.out;omega));intro v5 w5 ho hb hg hat;have HR5:=Za ho;have HB5:=Za hb;clear ho hb hg hat;skip)
   have HB6:=Za (HB4.out.trans HB5.out)
   go_wp2_with fail
   refine (HBI.out w5 HB6.out).mono ?_;rintro e w7 ⟨rfl,m7,rfl⟩;go_wp2;go_roundw
   case rel=>exact ⟨k+1,by omega,by go_num,⟨by rw [HT.out];exact Kd.c7z HR5.out m7⟩,⟨aWz HB6.out m7⟩⟩
   case measure=>simp [intOf];omega
  ·rw [HTW.out.2, <-List.append_assoc] at HT
   go_wp2_with ((with_reducible refine anz (b:= .append) (xs:= #[.tmp 21, .tmp 24]) rfl ?_);go_must (at_builtin;refine Kd.bnz (Kd.int .u8) (w0:=w4) W.heap.size rfl (.tmp 21) (.tmp 24) 34 5 (.int .u8 0) 1 rfl Tryz.underlying34 kr_ rfl (by decide) (by decide) _ _ (a % 256) [.int .u8 (a % 256)] (fun _=>True) (fun _=>False) rfl rfl rfl (fun _ h=>h.elim) (fun _ _=>trivial) HR4.out (Zw _ _) HZ4.out ?aL ?_;(case aL=>have:=HLL.out;omega));intro v5 w5 ho hb hg hat;have HR5:=Za ho;have HB5:=Za hb;clear ho hb hg hat;skip)
   have HB6:=Za (HB4.out.trans HB5.out)
   go_wp2_with fail
   refine (HBI.out w5 HB6.out).mono ?_;rintro e w7 ⟨rfl,m7,rfl⟩;have HR8:=Za (Kd.c7z HR5.out m7);have HB8:=Za (aWz HB6.out m7);have HZ8:=Za (show W.heap.size<=(w5.drewN m7).heap.size from HB6.out.size);generalize w5.drewN m7=w8 at HR8 HB8 HZ8|-;generalize pre++ [a % 256] =pre2 at HR8 HL2 HT;clear HR5 HB5
   go_wp2_with ((with_reducible refine anz (b:= .append) (xs:= #[.tmp 29, .tmp 33]) rfl ?_);go_must (at_builtin;refine Kd.bnz (Kd.int .u8) (w0:=w8) W.heap.size rfl (.tmp 29) (.tmp 33) 34 5 (.int .u8 0) 1 rfl Tryz.underlying34 kr_ rfl (by decide) (by decide) _ _ (a / 256) [.int .u8 (a / 256)] (fun _=>True) (fun _=>False) rfl rfl rfl (fun _ h=>h.elim) (fun _ _=>trivial) HR8.out (Zw _ _) HZ8.out ?aL ?_;(case aL=>have:=HL2.out;omega));intro v9 w9 ho hb hg hat;have HR9:=Za ho;have HB9:=Za hb;clear ho hb hg hat;skip)
   go_roundw
   case rel=>exact ⟨k+1,by omega,by go_num,⟨by rw [HT.out];exact HR9.out⟩,⟨HB8.out.trans HB9.out⟩⟩
   case measure=>simp [intOf];omega
 ·obtain rfl:k=n:=by omega
  have HE:=Za (show l.take k=l from List.take_of_length_le (by have:=HLEN.out;omega));rw [HE.out] at HR;go_wp2;go_ret2;exact ⟨_,rfl,HR.out,HB.out⟩
def mapTo (f:Int->Int) (row:List Int) (j:Nat):List Int:=(row.take j).map f++row.drop j
theorem mapTo_zero (f:Int->Int) (row:List Int):mapTo f row 0=row:=by simp [mapTo]
theorem mapTo_full (f:Int->Int) (row:List Int):mapTo f row row.length=row.map f:=by simp [mapTo]
theorem mapTo_at (f:Int->Int) (row:List Int) (j:Nat) (x:Int) (h:row[j]?=some x):(mapTo f row j)[j]?=some x:=by
 have hi:=(Zk h).1;unfold mapTo;rw [List.getElem?_append_right (by simp;omega)];simp only [List.length_map,List.length_take,List.getElem?_drop];rw [show j+(j - min j row.length)=j by omega];exact h
theorem mapTo_step (f:Int->Int) (row:List Int) (j:Nat) (x:Int) (h:row[j]?=some x):(mapTo f row j).set j (f x)=mapTo f row (j+1):=by
 obtain ⟨hi,e⟩:=Zk h;unfold mapTo;rw [List.set_append_right _ _ (by simp;omega),List.length_map,List.length_take,show j - min j row.length=0 by omega,List.drop_eq_getElem_cons hi,Zh,List.take_add_one,h,List.map_append,List.append_assoc];rfl
def mulB (wb c:Int) (b:List Int):List Int:=bytesF wb ((wordsF wb b).map (gmul wb c))
theorem eSz (wb:Int) (b:List Int):(wordsF wb b).length=b.length / wN wb:=d2z _ _ _
theorem rWords.ok (g : Nat) (wb p : Int) (S : Nat -> Prop) (A : Option Addr) (c : Nat) (b : List Int) (W : World) (hw : wb = 8 \/ wb = 16) (hF : Fd W g wb p S) (hb : Kd.C (Kd.int .u8) W A b.length b) (hl : b.length <= 1000000) (hd : b.length % wN wb = 0) :
  Calls Tryz.prog 101 #[.pointer (some ⟨g,0,none⟩), .slice A b.length c] W (WordsOk W (wordsF wb b)):=by
 rcases hw with rfl|rfl
 ·exact rWords.ok8 g p S A c b W hF hb hl
 ·exact rWords.ok16 g p S A c b W hF hb hl hd
theorem rMul.badw (g : Nat) (wb p c : Int) (S : Nat -> Prop) (A : Option Addr) (cc : Nat) (b : List Int) (W : World) (hw : wb = 8 \/ wb = 16) (hF : Fd W g wb p S) (hl : b.length <= 1000000) (hd : b.length % wN wb ≠ 0) :
  Calls Tryz.prog 69 #[.pointer (some ⟨g,0,none⟩), .int .i64 c, .slice A b.length cc] W fun e w'=>e= .returned (.tuple #[.slice none 0 0, .int .i64 1])/\Drawn0 W w':=by
 have HC:=Za (rWords.bad g wb p S A cc b W hw hF hl hd);clear hw hF hl hd;go_enter Tryz.func69,Tryz.ntmps69
 go_wp2_with fail
 refine HC.out.mono ?_;rintro e w1 ⟨rfl,m1,rfl⟩;go_wp2;go_ret2;exact ⟨rfl,Drawn0.step (Drawn0.refl _) _⟩
theorem rMul.ok (g : Nat) (wb c : Int) (S : Nat -> Prop) (A : Option Addr) (cc : Nat) (b : List Int) (W : World) (hw : wb = 8 \/ wb = 16) (hF : Fd W g wb (fpoly wb) S) (hS : ∀ k, S k -> k < W.heap.size) (hb : Kd.C (Kd.int .u8) W A b.length b) (hl : b.length <= 1000000) (hd : b.length % wN wb = 0) (hc : inF wb c = true) :
  Calls Tryz.prog 69 #[.pointer (some ⟨g,0,none⟩), .int .i64 c, .slice A b.length cc] W fun e w'=> ∃v,e= .returned (.tuple #[v, .int .i64 0])/\(Kd.int .u8).R 5 w' W.heap.size (fun _=>True) v (mulB wb c b)/\Fd w' g wb (fpoly wb) S/\BB W w' g:=by
 have HWD:=Za (rWords.ok g wb (fpoly wb) S A cc b W hw hF hb hl hd);have HF0:=Za hF;have HW:=Za hw;have HS:=Za hS;have HCI:=Za hc
 have hwl:(wordsF wb b).length<=1000000:=by
  rw [eSz];exact Zt (Nat.div_le_self _ _) hl
 obtain ⟨res,hres⟩: ∃r,mulB wb c b=r:=⟨_,rfl⟩;have HRES:=Za hres;rw [hres];unfold mulB at HRES;generalize wordsF wb b=l at HWD hwl HRES;generalize b.length=bl at HWD|-;clear hF hw hS hc hres hb hl hd;obtain ⟨n,hn⟩: ∃n,l.length=n:=⟨_,rfl⟩;have HLEN:=Za hn;rw [hn] at hwl;clear hn;go_enter Tryz.func69,Tryz.ntmps69
 go_wp2_with fail
 refine HWD.out.mono ?_;rintro e w1 ⟨lb,rfl,q1,q2,q3⟩;rw [HLEN.out];have HX1:=Za (show w1.heap[lb]?=some (.cells (nums .i64 (mapTo (gmul wb c) l 0)).toArray 3 (0,0)) by rw [mapTo_zero];exact q1);have HLB:=Za q2;have HB1:=Za (BB.of_below q3 g);have HF1:=Za (show Fd w1 g wb (fpoly wb) (fun q=>S q\/q=lb) from ((HF0.out.more).below q3).thin (fun q _ hs=>hs.elim .inl (fun e=> .inr (by omega))));have HGL:=Za (show lb≠g by have:=HF0.out.lt;omega);have HRN:=Za (rin.calls g wb (fpoly wb) c (fun q=>S q\/q=lb) w1 HW.out HF1.out);rw [HCI.out] at HRN;clear q1 q2 q3 HWD HF0
 go_wp2_with fail
 refine HRN.out.mono ?_;rintro e w2 ⟨rfl,m2,rfl⟩;have HX2:=Za (show (w1.drewN m2).heap[lb]?=some (.cells (nums .i64 (mapTo (gmul wb c) l 0)).toArray 3 (0,0)) from HX1.out);have HB2:=Za (HB1.out.drewN m2);have HF2:=Za (HF1.out.drewN m2);generalize w1.drewN m2=w2 at HX2 HB2 HF2|-;clear HX1 HB1 HF1 HRN;go_wp2
 go_loopw [28] (fun iv wr=> ∃k:Nat,k<=n/\iv= .int .i64 (k:Int)/\Aside0 (wr.heap[lb]?=some (.cells (nums .i64 (mapTo (gmul wb c) l k)).toArray 3 (0,0)))/\Aside0 (BB W wr g)/\Aside0 (Fd wr g wb (fpoly wb) (fun q=>S q\/q=lb))) (fun iv _=>n - (intOf iv).toNat)
 case atStart=>exact ⟨0,Nat.zero_le _,rfl,HX2,HB2,HF2⟩
 clear HX2 HB2 HF2;obtain ⟨w3,rfl⟩: ∃w3,w3=wr:=⟨_,rfl⟩;obtain ⟨k,hk,rfl,HX,HB,HF⟩:=hrel;by_cases hlt:k<n
 ·obtain ⟨x,hx⟩: ∃x,l[k]?=some x:=⟨_,Zf (by have:=HLEN.out;omega)⟩;have hcx:w3.cell? ⟨lb,k,none⟩=some (.int .i64 x):=(abz HX.out k).trans (dNz .i64 _ _ _ (mapTo_at _ _ _ _ hx));have HST:=Za (mapTo_step (gmul wb c) l k x hx)
  have HMU:=Za (csz.calls g (fun q=>S q\/q=lb) wb c x w3 HW.out HF.out (fun q hq=>by
   rcases hq with hq|rfl
   ·exact Zp (HS.out q hq) HB.out.size
   ·exact a1z HX.out))
  have HXB:=Za (show∀w4,BB w3 w4 g->w4.heap[lb]?=some (.cells (nums .i64 (mapTo (gmul wb c) l k)).toArray 3 (0,0)) from fun w4 h=>(h.block lb (a1z HX.out) HGL.out).trans HX.out);have HAT:=Za (mapTo_at (gmul wb c) l k x hx);have k1:(0:Int)<=(k:Int):=by omega
  have k2:(k:Int)<(n:Int):=by omega
  clear hx
  go_wp2_with fail
  refine HMU.out.mono ?_;rintro e w4 ⟨rfl,f1,f2⟩;have HX4:=Za (HXB.out w4 f2);have hc4:w4.cell? ⟨lb,k,none⟩=some (.int .i64 x):=(abz HX4.out k).trans (dNz .i64 _ _ _ HAT.out);have hf4:=bmz HX4.out k;have HX5:=Za (doz HX4.out k (gmul wb c x) HST.out);have HB5:=Za ((HB.out.trans f2).new HLB.out k (.int .i64 (gmul wb c x)));have HF5:=Za (f1.set (q:=⟨lb,k,none⟩) (.inr rfl) (.int .i64 (gmul wb c x)));clear f1 f2 hcx HMU;go_wp2;go_roundw
  case rel=>exact ⟨k+1,by omega,by go_num,HX5,HB5,HF5⟩
  case measure=>simp [intOf];omega
 ·obtain rfl:k=n:=by omega
  have HE:=Za (show mapTo (gmul wb c) l k=l.map (gmul wb c) by rw [<-HLEN.out];exact mapTo_full _ _);rw [HE.out] at HX;have hC:=C_nums HX.out (by simp;have:=HLEN.out;omega);rw [List.length_map,HLEN.out] at hC
  have HBY:=rBytes.calls g wb (fpoly wb) (fun q=>S q\/q=lb) (some ⟨lb,0,none⟩) k (l.map (gmul wb c)) w3 HW.out HF.out (by rw [List.length_map,HLEN.out];exact hC) (by rw [List.length_map,HLEN.out];omega) (fun a ha=>by
   obtain ⟨y, -,rfl⟩:=List.mem_map.1 ha
   exact bHz HW.out _ _)
  rw [HRES.out,List.length_map,HLEN.out] at HBY;have HBYS:=Za HBY;clear hC HBY
  go_wp2_with fail
  refine HBYS.out.mono ?_;rintro e w4 ⟨v,rfl,r1,r2⟩;have R1:=Za (Kd.bKz r1 HB.out.size);have R2:=Za (HF.out.below r2);have R3:=Za (HB.out.trans (BB.of_below r2 g));clear r1 r2;go_wp2;go_ret2;exact ⟨_,rfl,R1.out,R2.out.thin (fun q _ h=> .inl h),R3.out⟩
end Go.Proofs.Xc
end
