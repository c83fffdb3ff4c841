-- Joined texts of this work (wip/tools/bundle.py).
import Derived.Test.YtpdakdcmahlghaaGreatBCodecEncodes11
set_option maxHeartbeats 8000000
set_option maxRecDepth 100000
set_option linter.unusedVariables false
set_option linter.unusedSimpArgs false
section
namespace Go.Proofs.Xc
open Go.RowKit Go.Proofs.Pw Go.Proofs.Pl Go.Proofs.Pm
attribute [local go_sem] baz bbz bmz bnz a2z a3z bcz bdz
attribute [local go_sem] Oper.semAt_some
def a6z.fill (size:Nat):List Int->Nat->List (List Int)->Option (List (List Int))
 | [],_,rows=>some rows
 |c::cs,i,rows=>if i / size<rows.length then a6z.fill size cs (i+1) (rows.set (i / size) ((rows.getD (i / size) []).set (i % size) c)) else none
def a6z.f (k:Nat) (a0_0 a0_1 a0_2:Int) (l1:List Int):Option (List (List Int)×Int):=
 (a1z.f k a0_0 a0_1 a0_2 (l1.length:Int)).bind fun s=>if s.2=0 then (if 1<=a0_1 then (if a0_1<=1000 then (if 1<=s.1 then (if s.1<=100000 then (if l1.length<=100000 then
  (cyz.f a0_0 a0_1 a0_2).bind fun u=>(if u.2=0\/u.2=4 then (a6z.fill s.1.toNat (laidL u.2.toNat l1) 0 (List.replicate a0_1.toNat (List.replicate s.1.toNat 0))).bind fun r=>some (r,0) else none)
  else none) else none) else none) else none) else none) else some ([],s.2)
theorem a6z.bad (k : Nat) (a0_0 a0_1 a0_2 : Int) (A1 : Option Addr) (c1 : Nat) (l1 : List Int) (s1 s2 : Int) (w : World) (h : a1z.f k a0_0 a0_1 a0_2 (l1.length : Int) = some (s1, s2)) (hs : s2 ≠ 0) :
  Calls Tryz.prog 55 #[.agg #[.int .i64 a0_0, .int .i64 a0_1, .int .i64 a0_2], .slice A1 l1.length c1] w fun e w'=>e= .returned (.tuple #[.slice none 0 0, .int .i64 s2])/\Below w.heap.size w w':=by
 have HZ:=Za (fun w=>a1z.calls k a0_0 a0_1 a0_2 (l1.length:Int) s1 s2 w h);have hu:=Tryz.underlying23;have hb:(s2 !=0)=true:=by simpa using hs
 generalize l1.length=n at HZ|-;clear h hs;go_enter Tryz.func55,Tryz.ntmps55
 go_wp2_with fail
 refine (HZ.out _).mono ?_;rintro e w1 ⟨rfl,hB⟩;have HB:=Za (show Below w.heap.size w w1 from (aoz (Zw _ _) _).trans (hB.mono (by simp)));clear hB;go_wp2;go_ret2;exact ⟨rfl,aoz HB.out _⟩
theorem a6z.go (k : Nat) (a0_0 a0_2 : Int) (K size ahead n : Nat) (A1 : Option Addr) (c1 : Nat) (l1 : List Int) (u1 : Int) (res : List (List Int)) (w : World) (hr1 : Kd.C (Kd.int .u8) w A1 l1.length l1) (hc1 : n <= c1) (hn : l1.length = n) (hn2 : n <= 100000)
  (h:a1z.f k a0_0 (K:Int) a0_2 (n:Int)=some ((size:Int),0)) (hK:1<=K) (hK2:K<=1000) (hs:1<=size) (hs2:size<=100000) (hru:cyz.f a0_0 (K:Int) a0_2=some (u1,(ahead:Int))) (hah:ahead=0\/ahead=4)
  (hf:a6z.fill size (laidL ahead l1) 0 (List.replicate K (List.replicate size 0))=some res):
  Calls Tryz.prog 55 #[.agg #[.int .i64 a0_0, .int .i64 (K:Int), .int .i64 a0_2], .slice A1 n c1] w fun e w'=> ∃v,e= .returned (.tuple #[v, .int .i64 0])/\Kd.S (dM 5 .u8) 34 w' w.heap.size (fun _=>True) v res/\Below w.heap.size w w':=by
 have HZ:=Za (fun w=>a1z.calls k a0_0 (K:Int) a0_2 (n:Int) (size:Int) 0 w h);have HRU:=Za (fun w=>cyz.calls a0_0 (K:Int) a0_2 u1 (ahead:Int) w hru);have HR1:=Za hr1;have HN:=Za hn;have HF:=Za hf;have HAH:=Za hah;have hu:=Tryz.underlying23;have hbx:=heap_alloc_new w (.cells #[.int .i64 a0_0, .int .i64 (K:Int), .int .i64 a0_2] 23);have HBX:=Za hbx;have HB0:=Za (aoz (Zw w.heap.size w) (.cells #[.int .i64 a0_0, .int .i64 (K:Int), .int .i64 a0_2] 23));clear h hru hr1 hn hf hah hbx;refine (callsIn_wide (n:=8)).1 (callsIn_of_wp_marks Tryz.func55 rfl trivial (wpIn_wide.2 ?_) rfl);simp only [Tryz.ntmps55,List.size_toArray,List.length_cons,List.length_nil,Nat.reduceAdd,Nat.reduceSub,Array.replicate_succ,Array.replicate_zero,List.push_toArray,List.append_toArray,List.nil_append,List.cons_append]
 go_wp2_with fail
 generalize w.alloc (.cells #[.int .i64 a0_0, .int .i64 (K:Int), .int .i64 a0_2] 23)=w0 at HBX HB0|-;refine (HZ.out w0).mono ?_;rintro e w1 ⟨rfl,hB1⟩;have HB1:=Za (HB0.out.trans (hB1.mono HB0.out.size));have HX1:=Za (aLz HBX.out hB1);have hcK:(w1.alloc (.cells #[.int .i64 (size:Int)] 3)).cell? ⟨w.heap.size,1,none⟩=some (.int .i64 (K:Int)):=(aez (aLz HX1.out (aoz (Zw _ _) _)) 1).trans rfl;have HSB1:=Za (heap_alloc_new w1 (.cells #[.int .i64 (size:Int)] 3));have HB2:=Za (aoz HB1.out (.cells #[.int .i64 (size:Int)] 3));have HX2:=Za (aLz HX1.out (aoz (Zw _ _) (.cells #[.int .i64 (size:Int)] 3)));have HSBW:=Za (show w.heap.size<=w1.heap.size from HB1.out.size);have HBASE:=Za (show w.heap.size<=(w1.alloc (.cells #[.int .i64 (size:Int)] 3)).heap.size from HB2.out.size);clear hB1 HBX HB0 HZ HB1 HX1
 go_wp2_with ((with_reducible refine aUz (N:=26) rfl ?_);go_must (refine Kd.S_make (dM 5 .u8) (w0:=w) w.heap.size 34 rfl rfl 24 (.tmp 25) (.tmp 25) rfl (K:Int) rfl rfl Tryz.underlying24 (.slice none 0 0) 24 kr_ rfl (by decide) (by decide) ([] :List Int) (ok:=fun _=>True) (okp:=fun _=>True) ⟨_,rfl,Kd.R_nil _ _ _ _ _⟩ (fun _ h=>h) trivial (by omega) (by omega) HB2.out HBASE.out ?_);intro v2 w2 ho hb hg hat;rw [Zu] at ho;obtain ⟨o,cap,rfl, -, -, -⟩:=Kd.S_form ho (by rw [List.length_replicate];exact hK);have HO2:=Za ho;have HB3:=Za hb;have HG2:=Za hg;clear ho hb hg hat)
 rw [List.length_replicate] at HO2;obtain ⟨sb,hsb⟩: ∃sb,w1.heap.size=sb:=⟨_,rfl⟩;obtain ⟨lbx,hlbx⟩: ∃lbx,w2.heap.size=lbx:=⟨_,rfl⟩
 have hz2:sb<lbx:=by
  have h1:=HG2.out.size;simp at h1;omega
 have hwl:w.heap.size<sb:=by
  have h1:=a4z HX2.out;have h2:=HSBW.out
  have h3:w.heap.size≠w1.heap.size:=fun e=>by
   have h4:=HSB1.out;rw [<-e] at h4;rw [HX2.out] at h4;injection h4 with h4
   injection h4 with h5 h6
   exact Yf h6 (by decide)
  omega
 have HX3:=Za (show (w2.alloc (.cells #[.slice (some ⟨o,0,none⟩) K cap] 24)).heap[w.heap.size]?=some (.cells #[.int .i64 a0_0, .int .i64 (K:Int), .int .i64 a0_2] 23 (0,0)) from aLz ((HG2.out.block _ (a4z HX2.out) (by simp)).trans HX2.out) (aoz (Zw _ _) _));have HSB3:=Za (show (w2.alloc (.cells #[.slice (some ⟨o,0,none⟩) K cap] 24)).heap[sb]?=some (.cells #[.int .i64 (size:Int)] 3 (0,0)) by rw [<-hsb];exact aLz ((HG2.out.block _ (a4z HSB1.out) (by simp)).trans HSB1.out) (aoz (Zw _ _) _));have HLB3:=Za (show (w2.alloc (.cells #[.slice (some ⟨o,0,none⟩) K cap] 24)).heap[lbx]?=some (.cells #[.slice (some ⟨o,0,none⟩) K cap] 24 (0,0)) by rw [<-hlbx];exact heap_alloc_new _ _);have HO3:=Za (show Kd.S (dM 5 .u8) 34 (w2.alloc (.cells #[.slice (some ⟨o,0,none⟩) K cap] 24)) w.heap.size (fun _=>True) (.slice (some ⟨o,0,none⟩) K cap) (madeTo K size 0) by rw [madeTo_zero];exact Kd.eez HO2.out _);have HB4:=Za (aoz HB3.out (.cells #[.slice (some ⟨o,0,none⟩) K cap] 24))
 rw [hsb,hlbx];have HZ2:=Za hz2;have HWL:=Za hwl;clear hsb hlbx HO2 HB3 HG2 HX2 HSB1 HB2 hcK HSBW HBASE hz2 hwl;generalize w2.alloc (.cells #[.slice (some ⟨o,0,none⟩) K cap] 24)=w3 at HX3 HSB3 HLB3 HO3 HB4|-;have hmk:=make_bytes size (by omega)
 go_loopw [29] (fun iv wr=> ∃i:Nat,i<=K/\iv= .int .i64 (i:Int)/\Aside0 (Kd.S (dM 5 .u8) 34 wr w.heap.size (fun _=>True) (.slice (some ⟨o,0,none⟩) K cap) (madeTo K size i))/\Aside0 (Below w.heap.size w wr)/\Aside0 (wr.heap[w.heap.size]?=some (.cells #[.int .i64 a0_0, .int .i64 (K:Int), .int .i64 a0_2] 23 (0,0)))/\Aside0 (wr.heap[sb]?=some (.cells #[.int .i64 (size:Int)] 3 (0,0)))/\Aside0 (wr.heap[lbx]?=some (.cells #[.slice (some ⟨o,0,none⟩) K cap] 24 (0,0)))) (fun iv _=>K - (intOf iv).toNat)
 case atStart=>exact ⟨0,Nat.zero_le _,rfl,HO3,HB4,HX3,HSB3,HLB3⟩
 clear HO3 HB4 HX3 HSB3 HLB3;obtain ⟨wq,rfl⟩: ∃w',w'=wr:=⟨_,rfl⟩;obtain ⟨i,hi,rfl,HO,HB,HX,HSB,HLB⟩:=hrel;by_cases hlt:i<K
 ·have e1:wq.cell? ⟨lbx,0,none⟩=some (.slice (some ⟨o,0,none⟩) K cap):=(aez HLB.out 0).trans rfl;have e2:wq.cell? ⟨sb,0,none⟩=some (.int .i64 (size:Int)):=(aez HSB.out 0).trans rfl;have HO5:=Za (S_new HO.out HB.out.size (fun _ _=>trivial) i hlt (List.replicate size 0) (by simp;omega));rw [List.length_replicate,madeTo_step K size i hlt] at HO5;obtain ⟨v0,hcv,hfv⟩:=S_cell (Kd.eez HO.out (.cells (nums .u8 (List.replicate size 0)).toArray 5)) i hlt
  have hol:o≠lbx/\o≠sb/\o≠w.heap.size:=by
   obtain ⟨cs,hcs⟩:=Kd.bBz HO.out o (by simp [Value.ownBlock]);refine ⟨?_,?_,?_⟩
   ·rintro rfl;rw [HLB.out] at hcs;injection hcs with hcs
    injection hcs with _ hcs
    exact Yf hcs (by decide)
   ·rintro rfl;rw [HSB.out] at hcs;injection hcs with hcs
    injection hcs with _ hcs
    exact Yf hcs (by decide)
   ·rintro rfl;rw [HX.out] at hcs;injection hcs with hcs
    injection hcs with _ hcs
    exact Yf hcs (by decide)
  have hbo:w.heap.size<=o:=Kd.dhz HO.out o (by simp [Value.ownBlock]);have HB5:=Za (csz (aoz HB.out (.cells (nums .u8 (List.replicate size 0)).toArray 5)) hbo i (.slice (some ⟨wq.heap.size,0,none⟩) size size));have HX5:=Za (byz (aLz HX.out (aoz (Zw _ _) (.cells (nums .u8 (List.replicate size 0)).toArray 5))) (p:=⟨o,i,none⟩) (Ne.symm hol.2.2) (.slice (some ⟨wq.heap.size,0,none⟩) size size));have HSB5:=Za (byz (aLz HSB.out (aoz (Zw _ _) (.cells (nums .u8 (List.replicate size 0)).toArray 5))) (p:=⟨o,i,none⟩) (Ne.symm hol.2.1) (.slice (some ⟨wq.heap.size,0,none⟩) size size));have HLB5:=Za (byz (aLz HLB.out (aoz (Zw _ _) (.cells (nums .u8 (List.replicate size 0)).toArray 5))) (p:=⟨o,i,none⟩) (Ne.symm hol.1) (.slice (some ⟨wq.heap.size,0,none⟩) size size));have i1:(0:Int)<=(i:Int):=by omega
  have i2:(i:Int)<(K:Int):=by omega
  clear hol hbo
  go_wp2_with fail
  refine regOnly_ ?_;refine bXz (n:=6) (S:=fun w'=>w'.cell? ⟨lbx,0,none⟩=some (.slice (some ⟨o,0,none⟩) K cap)/\w'.cell? ⟨sb,0,none⟩=some (.int .i64 (size:Int))) (ds:= [5]) (bA 6 0) kr_ rfl rfl ⟨e1,e2⟩ (fun hHeld=> ?_);refine pu_ 1 33 2 ?_;refine tk_ 0 32 3 hHeld ?_;refine tk_ 2 34 7 hHeld ?_;refine one_ (i:=3) (N:=some 35) (bA 6 15) rfl rfl kr_ (by decide) (fun K hK=> ?_);refine ciz (w1:= ?_) (v:= ?_) (by rfl) rfl ?_ ?_;rotate_left 2
  ·go_simp;constructor
   ·rfl
   ·rfl
  refine hK.out _ _ ⟨(World.cell?_alloc_past _ _ _ (Zj _ _ e1)).trans e1,(World.cell?_alloc_past _ _ _ (Zj _ _ e2)).trans e2⟩ (fun hHeld=> ?_);clear hK K;refine norm_ (a':= ?_) ?_ ?_;rotate_left
  ·show Act.put _ (some 35) _=_;simp only [Act.put,Zg,Zh,Zi,i64_w,i32_w];rfl
  refine pu_ 4 36 31 ?_;refine last_ (i:=5) (N:=none) (bA 6 63) rfl rfl kr_ (by decide) (fun K hK=> ?_);refine skip_ (w1:= ?_) (by rfl) rfl ?_ ?_;rotate_left
  ·go_simp;rfl
  refine hK.out _ _ ?_;clear hK K;refine done_ kr_ ?_;refine regOnly_normal ?_;go_wp2;exact ⟨⟨i+1,by omega,by simp [i64_w],Za HO5.out,Za HB5.out.drew,Za HX5.out,Za HSB5.out,Za HLB5.out⟩,by simp [intOf];omega⟩
 ·obtain rfl:i=K:=by omega
  have hfull:=HO.out;rw [madeTo_full] at hfull;have HO4:=Za hfull;have q0:wq.cell? ⟨w.heap.size,0,none⟩=some (.int .i64 a0_0):=(aez HX.out 0).trans rfl;have q1:wq.cell? ⟨w.heap.size,1,none⟩=some (.int .i64 (i:Int)):=(aez HX.out 1).trans rfl;have q2:wq.cell? ⟨w.heap.size,2,none⟩=some (.int .i64 a0_2):=(aez HX.out 2).trans rfl;have hself:((i:Int)<(i:Int))=False:=by simp
  clear hi hlt hmk hfull HO
  go_wp2_with fail
  refine (HRU.out wq).mono ?_;rintro e w4 ⟨rfl,hB4⟩;have HB5:=Za (HB.out.trans (hB4.mono HB.out.size));have HO5:=Za (Kd.edz HO4.out hB4);have HX5:=Za (aLz HX.out hB4);have HSB5:=Za (aLz HSB.out hB4);have HLB5:=Za (aLz HLB.out hB4);clear hB4 q0 q1 q2 HB HO4 HX HSB HLB HRU;have hld:=laid.calls (ahead:Int) A1 n c1
  go_wp2_with ((go_at_call 90;refine (hld _).mono ?_;rintro e w' ⟨rfl,rfl⟩))
  clear hld;have hX10:((w4.alloc (.cells #[.int .i64 (ahead:Int)] 3)).alloc (.cells #[.slice A1 n c1] 34)).heap[w4.heap.size]?=some (.cells #[.int .i64 (ahead:Int)] 3 (0,0)):=bAz (dvz w4 _) _;have hX11:((w4.alloc (.cells #[.int .i64 (ahead:Int)] 3)).alloc (.cells #[.slice A1 n c1] 34)).heap[w4.heap.size+1]?=some (.cells #[.slice A1 n c1] 34 (0,0)):=cxz _ _ _ (by simp);have hB6:Below w4.heap.size w4 ((w4.alloc (.cells #[.int .i64 (ahead:Int)] 3)).alloc (.cells #[.slice A1 n c1] 34)):=dCz (aoz (Zw _ _) _) (aoz (Zw _ _) _);have hsz:((w4.alloc (.cells #[.int .i64 (ahead:Int)] 3)).alloc (.cells #[.slice A1 n c1] 34)).heap.size=w4.heap.size+2:=by simp
  generalize (w4.alloc (.cells #[.int .i64 (ahead:Int)] 3)).alloc (.cells #[.slice A1 n c1] 34)=w5 at hX10 hX11 hB6 hsz|-;obtain ⟨b,hb⟩: ∃b,b=w4.heap.size:=⟨_,rfl⟩;rw [<-hb] at hX10 hX11 hsz hB6|-;have hwb:w.heap.size<=b:=hb▸HB5.out.size;have hB6':Below w.heap.size w w5:=HB5.out.trans (hB6.mono hwb);have hR5:Kd.C (Kd.int .u8) w5 A1 l1.length l1:=Kd.aMz HR1.out hB6';have hlt1:lbx<b:=hb▸a4z HLB5.out
  have hS6:Kd.S (dM 5 .u8) 34 w5 w.heap.size (fun k=>w.heap.size<=k/\k<b/\k≠sb/\k≠lbx) (.slice (some ⟨o,0,none⟩) i cap) (List.replicate i (List.replicate size 0)):=by
   have h1:=Kd.bEz (Kd.dNz (Kd.dNz HO5.out HSB5.out (by decide)) HLB5.out (by decide));have h2:=Kd.edz h1 (hb▸hB6:Below w4.heap.size w4 w5);refine Kd.cGz h2 (fun q hq=> ?_);simp only [<-hb] at hq;exact ⟨hq.2.1,hq.2.2.1,hq.1.1.2,hq.1.2⟩
  have HSB6:=Za (aLz HSB5.out (hb▸hB6));have HLB6:=Za (aLz HLB5.out (hb▸hB6));have HX10:=Za hX10;have HX11:=Za hX11;have HB6:=Za hB6';have HR5:=Za hR5;have HS6:=Za hS6;have HSZ:=Za hsz;have HWB:=Za hwb;have HLT:=Za hlt1;clear hX10 hX11 hB6 hB6' hR5 hS6 hsz hwb hlt1 HB5 HO5 HX5 HSB5 HLB5 hb;refine (wpIn_wide (n:=8)).1 ?_
  refine wpIn_range_nth (α:=Nat×Int) rfl (by omega) (gf:=134) (lb:= #[.pointer (some ⟨b+1,0,none⟩), .pointer (some ⟨b,0,none⟩)]) rfl trivial (enters_of Tryz.func134 kr_ rfl)
   (laid_seq ahead b (b+1) n c1 HAH.out (fun k=>w.heap.size<=k/\k<b/\k≠sb/\k≠lbx) A1 l1 w5 HR5.out HN.out hc1 hn2 HX10.out HX11.out (fun k hk=>by have:=HSZ.out;have:=hk.2.1;omega)) KpC.trans ?hKb (Zw _ _) (fun _=>rfl)
   (fun pre Wx=> ∃rows,Kd.S (dM 5 .u8) 34 Wx w.heap.size (fun k=>w.heap.size<=k/\k<b/\k≠sb/\k≠lbx) (.slice (some ⟨o,0,none⟩) i cap) rows/\Wx.heap[sb]?=some (.cells #[.int .i64 (size:Int)] 3 (0,0))/\Wx.heap[lbx]?=some (.cells #[.slice (some ⟨o,0,none⟩) i cap] 24 (0,0))/\rows.length=i/\(∀r,r∈rows->r.length=size)/\a6z.fill size ((laidL ahead l1).drop pre.length) pre.length rows=some res/\Below w.heap.size w Wx/\w5.heap.size<=Wx.heap.size)
   ?hI ?hHd ?h0 (fun x=> { tmps:= #[.agg #[.int .i64 a0_0, .int .i64 (i:Int), .int .i64 a0_2], .slice A1 n c1, .pointer (some ⟨w.heap.size,0,none⟩),undef, .slice none 0 0, .int .i64 0, .pointer (some ⟨sb,0,none⟩), .int .i64 0, .pointer (some ⟨lbx,0,none⟩),u9, .int .i64 u1, .int .i64 (ahead:Int), .int .i64 (x.1:Int), .int .u8 x.2, .tuple #[.int .i64 (size:Int), .int .i64 0], .agg #[.int .i64 a0_0, .int .i64 (i:Int), .int .i64 a0_2], .slice A1 n c1, .int .i64 (n:Int), .tuple #[.int .i64 (size:Int), .int .i64 0], .int .i64 (size:Int), .int .i64 0, .int .i64 0, .bool false,undef, .pointer (some ⟨w.heap.size,1,none⟩), .int .i64 (i:Int), .slice (some ⟨o,0,none⟩) i cap, .slice (some ⟨o,0,none⟩) i cap, .int .i64 (i:Int), .int .i64 (i:Int), .bool false,u31,u32,u33,u34,u35,u36,u37, .tuple #[.int .i64 u1, .int .i64 (ahead:Int)], .agg #[.int .i64 a0_0, .int .i64 (i:Int), .int .i64 a0_2], .tuple #[.int .i64 u1, .int .i64 (ahead:Int)], .int .i64 u1, .int .i64 (ahead:Int), .int .i64 (ahead:Int), .slice A1 n c1, .func (.func 134) #[] #[.pointer (some ⟨b+1,0,none⟩), .pointer (some ⟨b,0,none⟩)], .int .i64 (x.1:Int), .int .u8 x.2,undef,undef,undef,undef,undef,undef,undef,undef,undef,undef,undef,undef],defers:= [] }) ?assign ?body ?done
  case hKb=>
   intro Wx l o1 o2 hl ho hno;refine ⟨(grownBy_putObj' Wx l o2).size,fun k oo hk hcc _=> ?_⟩;have hne:k≠l:=by rintro rfl;rw [hk] at ho;cases ho;rw [hcc] at hno;cases hno
   exact (World.putObj_heap_other hne).trans hk
  case hI=>
   rintro s X Y r ⟨rows,h1,h2,h3,h4,h5,h6,h7,h8⟩ hg hr;have hr': ∀q,r=some q-> ∃o:Obj,X.heap[q]?=some o/\o.isCells=false:=fun q e=>(hr q e).2
   have hcc: ∀(q:Nat) (oo:Obj),X.heap[q]?=some oo->oo.isCells=true->Y.heap[q]?=X.heap[q]?:=fun q oo hq ho=>grownBy_keeps_cells hg hr' hq ho
   exact ⟨rows,S_keepK h1 hcc,(hcc _ _ h2 rfl).trans h2,(hcc _ _ h3 rfl).trans h3,h4,h5,h6,⟨hg.os.trans h7.os,hg.tape.trans h7.tape,hg.output.trans h7.output,Zt h7.size hg.size,fun q hq=>(hg.block q (Zp hq h7.size) (fun e=>by have:=(hr q e.symm).1;have:=HSZ.out;have:=HWB.out;omega)).trans (h7.block q hq)⟩,Zt h8 hg.size⟩
  case hHd=>
   intro m x s X Y r h hg hr;exact h
  case h0=>
   refine ⟨_,HS6.out,HSB6.out,HLB6.out,by simp,fun r hr=>by rw [List.eq_of_mem_replicate hr];simp,?_,HB6.out,Zv _⟩
   simpa using HF.out
  case assign=>
   intro l x Wx K hK
   gi_wp2
   exact hK
  case body=>
   rintro l pre ⟨x,c⟩ Wx ⟨rows,h1,h2,h3,h4,h5,h6,h7,h8⟩ ⟨hx0,hx1⟩ hlen;dsimp only at hx0 hx1
   have hdr:(laidL ahead l1).drop pre.length=c::(laidL ahead l1).drop (pre.length+1):=by
    obtain ⟨hl,he⟩:=Zk hx1;rw [List.drop_eq_getElem_cons hl,he]
   rw [hdr, <-hx0] at h6;simp only [a6z.fill] at h6
   have hq:x / size<rows.length:=by
    by_cases hh:x / size<rows.length
    ·exact hh
    ·rw [Yb hh] at h6;cases h6
   rw [Ya hq] at h6;obtain ⟨row,hrow⟩: ∃r,rows[x / size]?=some r:=⟨_,Zf hq⟩;have hrl:row.length=size:=h5 row (Zo hrow);have hrd:rows.getD (x / size) [] =row:=by rw [Zm,hrow];rfl
   rw [hrd] at h6;have hj:x % size<size:=Nat.mod_lt _ hs;obtain ⟨g,cg,y,k1,k2,k3,kok,kne,kS⟩:=S_put2 h1 (x / size) (x % size) row hrow (by rw [hrl];exact hj) c;have e1:Wx.cell? ⟨lbx,0,none⟩=some (.slice (some ⟨o,0,none⟩) i cap):=(aez h3 0).trans rfl;have e2:Wx.cell? ⟨sb,0,none⟩=some (.int .i64 (size:Int)):=(aez h2 0).trans rfl;rw [hrl] at k1;rw [h4] at hq
   have hx100:x<=100004:=by
    have hl:(laidL ahead l1).length<=100004:=by
     have:=HN.out;unfold laidL four4;simp;omega
    omega
   have d1:Int.tdiv (x:Int) (size:Int)=((x / size:Nat):Int):=by rw [Int.ofNat_tdiv]
   have d2:Int.tmod (x:Int) (size:Int)=((x % size:Nat):Int):=by rw [Int.ofNat_tmod]
   obtain ⟨qx,hqx⟩: ∃qx,x / size=qx:=⟨_,rfl⟩;obtain ⟨rx,hrx⟩: ∃rx,x % size=rx:=⟨_,rfl⟩;have hqle:qx<=x:=hqx▸Nat.div_le_self _ _;rw [hqx] at d1 hq k1 kS h6 hrow;rw [hrx] at d2 hj k2 k3 kS h6;have i1:(0:Int)<=(qx:Int):=by omega
   have i2:(qx:Int)<(i:Int):=by omega
   have i3:(0:Int)<=(rx:Int):=by omega
   have i4:(rx:Int)<(size:Int):=by omega
   have i5: ¬(size=0):=by omega
   have i6:IntKind.i64.wrap (qx:Int)=(qx:Int):=by rw [IntKind.wrap_i64];omega
   have HEND:=Za (show KeepsFrom w5.heap.size Wx (Wx.setCell ⟨g,rx,none⟩ (.int .u8 c))/\KpC (fun k=>w.heap.size<=k/\k<b/\k≠sb/\k≠lbx) Wx (Wx.setCell ⟨g,rx,none⟩ (.int .u8 c))/\ ∃rows,Kd.S (dM 5 .u8) 34 (Wx.setCell ⟨g,rx,none⟩ (.int .u8 c)) w.heap.size (fun k=>w.heap.size<=k/\k<b/\k≠sb/\k≠lbx) (.slice (some ⟨o,0,none⟩) i cap) rows/\(Wx.setCell ⟨g,rx,none⟩ (.int .u8 c)).heap[sb]?=some (.cells #[.int .i64 (size:Int)] 3 (0,0))/\(Wx.setCell ⟨g,rx,none⟩ (.int .u8 c)).heap[lbx]?=some (.cells #[.slice (some ⟨o,0,none⟩) i cap] 24 (0,0))/\rows.length=i/\(∀r,r∈rows->r.length=size)/\a6z.fill size ((laidL ahead l1).drop (pre++ [(x,c)]).length) (pre++ [(x,c)]).length rows=some res/\Below w.heap.size w (Wx.setCell ⟨g,rx,none⟩ (.int .u8 c))/\w5.heap.size<=(Wx.setCell ⟨g,rx,none⟩ (.int .u8 c)).heap.size by
    have hsc: ∀k,k≠g->(Wx.setCell ⟨g,rx,none⟩ (.int .u8 c)).heap[k]?=Wx.heap[k]?:=fun k hk=>Below.heap_setCell Wx ⟨g,rx,none⟩ _ k hk
    refine ⟨⟨by simp,fun k oo hk hko hno=> ?_⟩,⟨by simp,fun k oo hk hcc he=>(hsc k (by rintro rfl;exact he kok)).trans hk⟩,_,kS,(hsc _ (by rintro rfl;exact kok.2.2.1 rfl)).trans h2,(hsc _ (by rintro rfl;exact kok.2.2.2 rfl)).trans h3,by rw [List.length_set];exact h4,?_,?_,csz h7 kok.1 rx _,by simpa using h8⟩
    ·exact (hsc k (by rintro rfl;have:=kok.2.1;have:=HSZ.out;omega)).trans hko
    ·intro r hr;rcases List.mem_or_eq_of_mem_set hr with hr|rfl
     ·exact h5 r hr
     ·rw [List.length_set];exact hrl
    ·rw [List.length_append,List.length_singleton, <-hx0]
     exact h6)
   have hmo:Tryz.prog.follows .mixedOrders=true:=by kernel_rfl
   clear h1 h2 h3 h4 h5 h6 h7 h8 hx0 hx1 hlen hdr hrow hrl hrd kok kne kS hqx hrx
   gi_wp2
   refine startIn_ (m:=12) (S:=fun w'=>w'.cell? ⟨lbx,0,none⟩=some (.slice (some ⟨o,0,none⟩) i cap)/\w'.cell? ⟨sb,0,none⟩=some (.int .i64 (size:Int))/\w'.cell? ⟨o,qx,none⟩=some (.slice (some ⟨g,0,none⟩) size cg)) (ds:= [11]) (bA 12 0) kr_ rfl rfl kr_ (by rintro ⟨_,_,h⟩;exact h) ⟨e1,e2,k1⟩ (fun hHeld=> ?_);refine pu_ 1 49 2 ?_;refine pu_ 6 54 66 ?_;refine pu_ 9 57 578 ?_;refine tk_ 0 48 579 hHeld ?_;refine tk_ 2 50 583 hHeld ?_;refine pu_ 3 51 591 ?_;refine pu_ 4 52 607 ?_;refine tk_ 5 53 639 hHeld ?_;refine tk_ 7 55 767 hHeld ?_;refine pu_ 8 56 1023 ?_;refine pu_ 10 58 2047 ?_;refine last_ (i:=11) (N:=none) (bA 12 4095) rfl rfl kr_ (by decide) (fun K hK=> ?_);refine skip_ (w1:= ?_) (by rfl) rfl ?_ ?_;rotate_left
   ·go_simp;rfl
   refine hK.out _ _ ?_;clear hK K;refine done_ kr_ ?_;obtain ⟨q1,q2,rows,p1,p2,p3,p4,p5,p6,p7,p8⟩:=HEND.out;refine Zb ⟨q1.1,q1.2⟩ (Zb ⟨q2.1,q2.2⟩ ⟨rows,Kd.S_drew p1,p2,p3,p4,p5,p6,p7.drew,p8⟩)
  case done=>
   rintro D xs Wx hD ⟨hxs,hlen⟩ ⟨rows,h1,h2,h3,h4,h5,h6,h7,h8⟩ hDd;rw [hlen,List.drop_length] at h6;obtain rfl:rows=res:=by simpa [a6z.fill] using h6
   have e1:Wx.cell? ⟨lbx,0,none⟩=some (.slice (some ⟨o,0,none⟩) i cap):=(aez h3 0).trans rfl;have H1:=Za h1;have H7:=Za h7;have H8:=Za h8;have HDD:=Za hDd;have HDN:=Za hD;clear h1 h2 h3 h4 h5 h6 h7 h8 hDd hD hxs hlen;simp only [Exit.inBlock,Exit.then];go_wp2;refine eoz [D] Wx (by simp) (fun D' hD'=>by rw [List.mem_singleton] at hD';rw [hD'];exact HDD.out) (fun w' hkp hsz hos htp hou=> ?_)
   have hcc: ∀(q:Nat) (oo:Obj),Wx.heap[q]?=some oo->oo.isCells=true->w'.heap[q]?=Wx.heap[q]?:=fun q oo hq ho=>hkp q (a4z hq) (fun hm=>by
    rw [List.mem_singleton] at hm;subst hm
    rw [HDD.out] at hq;cases hq;cases ho)
   refine ⟨_,results_tmp2 rfl _ _ _,_,rfl,S_keepK (Kd.cGz H1.out (fun _ _=>trivial)) hcc,hos.trans H7.out.os,htp.trans H7.out.tape,hou.trans H7.out.output,by rw [hsz];exact H7.out.size,fun q hq=>(hkp q (Zp hq H7.out.size) (fun hm=>by
    rw [List.mem_singleton] at hm
    have:=HDN.out;have:=HSZ.out;have:=HWB.out;omega)).trans (H7.out.block q hq)⟩
theorem a6z.calls (k:Nat) (a0_0:Int) (a0_1:Int) (a0_2:Int) (A1:Option Addr) (c1:Nat) (l1:List Int) (r1:List (List Int)) (r2:Int) (w:World) (hr1:Kd.C (Kd.int .u8) w A1 l1.length l1) (hc1:l1.length<=c1) (h:a6z.f k a0_0 a0_1 a0_2 l1=some (r1,r2)):
 Calls Tryz.prog 55 #[.agg #[.int .i64 a0_0, .int .i64 a0_1, .int .i64 a0_2], .slice A1 l1.length c1] w fun e w'=> ∃v0_:Value,e= .returned (.tuple #[v0_, .int .i64 r2])/\Kd.S (Kd.slice 5 (Kd.int .u8)) 34 w' w.heap.size (fun _=>True) v0_ r1/\Below w.heap.size w w':=by
 unfold a6z.f at h;obtain ⟨⟨s1,s2⟩,hz,h⟩:=Option.bind_eq_some_iff.1 h;by_cases hs:s2=0
 ·subst hs;dsimp only at h;rw [Ya rfl] at h
  have cut: ∀ {p:Prop} [Decidable p] {a:Option (List (List Int)×Int)},(if p then a else none)=some (r1,r2)->p/\a=some (r1,r2):=by
   intro p _ a hh;by_cases hp:p
   ·rw [Ya hp] at hh;exact ⟨hp,hh⟩
   ·rw [Yb hp] at hh;cases hh
  obtain ⟨q1,h⟩:=cut h;obtain ⟨q2,h⟩:=cut h;obtain ⟨q3,h⟩:=cut h;obtain ⟨q4,h⟩:=cut h;obtain ⟨q5,h⟩:=cut h;obtain ⟨⟨u1,u2⟩,hu,h⟩:=Option.bind_eq_some_iff.1 h;obtain ⟨q6,h⟩:=cut h;obtain ⟨r,hf,h⟩:=Option.bind_eq_some_iff.1 h;simp only [Zx,Zy] at h;obtain ⟨rfl,rfl⟩:=h;obtain ⟨K,rfl⟩: ∃K:Nat,a0_1=(K:Int):=⟨a0_1.toNat,by omega⟩;obtain ⟨size,rfl⟩: ∃s:Nat,s1=(s:Int):=⟨s1.toNat,by omega⟩;dsimp only at q6 hf q3 q4;obtain ⟨ahead,rfl⟩: ∃s:Nat,u2=(s:Int):=⟨u2.toNat,by omega⟩;simp only [Zu] at hf;exact a6z.go k a0_0 a0_2 K size ahead l1.length A1 c1 l1 u1 r w hr1 hc1 rfl q5 hz (by omega) (by omega) (by omega) (by omega) hu (by omega) hf
 ·dsimp only at h;rw [Yb hs] at h;simp only [Zx,Zy] at h;obtain ⟨rfl,rfl⟩:=h;refine (a6z.bad k a0_0 a0_1 a0_2 A1 c1 l1 s1 s2 w hz hs).mono ?_;rintro e w' ⟨rfl,hB⟩;exact ⟨_,rfl,Kd.S_nil _ _ _ _ _,hB⟩
end Go.Proofs.Xc
end
section
namespace Go.Proofs.Xc
open Go.RowKit Go.Proofs.Pw Go.Proofs.Pl Go.Proofs.Pm
attribute [local go_sem] baz bbz bmz bnz a2z a3z bcz bdz
def cqz.f (k:Nat) (a0_0:Int) (a0_1:Int) (a0_2:Int) (l1:List Int):Option ((List (List Int))×Int):=(a6z.f k a0_0 a0_1 a0_2 l1).bind fun bt116=>(if bt116.2=0 then ((aFz.f k a0_0 a0_1 a0_2 bt116.1).bind fun bt120=>(if bt116.1.length+bt120.1.length<5864062014805 then (some ((bt116.1++bt120.1),bt120.2)) else (none))) else (some (([] :List (List Int)),bt116.2)))
theorem cqz.calls (k : Nat) (a0_0 : Int) (a0_1 : Int) (a0_2 : Int) (A1 : Option Addr) (c1 : Nat) (l1 : List Int) (r1 : List (List Int)) (r2 : Int) (w : World) (hr1 : Kd.C (Kd.int .u8) w A1 l1.length l1) (hc1 : l1.length <= c1) (h : cqz.f k a0_0 a0_1 a0_2 l1 = some (r1, r2)) :
  Calls Tryz.prog 24 #[.agg #[.int .i64 a0_0, .int .i64 a0_1, .int .i64 a0_2], .slice A1 l1.length c1] w fun e w'=> ∃v0_:Value,e= .returned (.tuple #[v0_, .int .i64 r2])/\Kd.N (Kd.slice 5 (Kd.int .u8)) 34 w' w.heap.size (fun k_=>(w.heap.size<=k_)) v0_ r1/\Below w.heap.size w w':=by
 have hu23:=Tryz.underlying23;have HR1:=Za hr1;have HC1:=Za hc1;clear hr1 hc1;have HB:=Za (Zw w.heap.size w);have H:=h;clear h;unfold cqz.f at H;obtain ⟨⟨t116,t119⟩,A3,H⟩:=ob_ H
 (try dsimp only at H)
 by_cases c4:t119=0
 rotate_left
 ·rw [Yb c4] at H;have c4b0:(t119==0)=false:=Zq c4;have c4b1:(t119 !=0)=true:=Yd c4;simp only [Zx,Zy] at H;obtain ⟨rfl,rfl⟩:=H;go_enter Tryz.func24,Tryz.ntmps24
  go_wp2_with (first|((with_reducible refine aUz (N:=2) rfl ?_);refine bx_ 2 #[.int .i64 a0_0, .int .i64 a0_1, .int .i64 a0_2] 23 ?_;intro gb115 hg w15 hbox hb;have n_:=Zb (hs_ HB hb) (Zb (Za (hbox)) (Zb (ag_ HB gb115) (ag_ HB gb115)));clear HB;obtain ⟨HB,BK115,GW115,GE115⟩:=n_;clear hb hbox hg;obtain ⟨hcz16_0,hfz16_0,hcz16_1,hfz16_1,hcz16_2,hfz16_2⟩:=bc3_ BK115.out)|((with_reducible refine abz (f:=55) rfl ?_);refine gl_ (some 12) Tryz.func55 #[.agg #[.int .i64 a0_0, .int .i64 a0_1, .int .i64 a0_2], .slice A1 l1.length c1] ?_;(with_reducible refine (a6z.calls k a0_0 a0_1 a0_2 _ _ l1 t116 t119 _ (xd_ (Kd.aMz HR1.out HB.out)) (HC1.out) A3.out).mono ?_);rintro e w17 ⟨v117,rfl,ho0,hb⟩;refine ⟨_,rfl,?_⟩;have n_:=Zb (Za (Kd.bUz (Kd.bRz (ok':=fun k_=>(w.heap.size<=k_)/\k_≠gb115) (Kd.S_N (Kd.bEz ho0)) (fun k_ hk_=>⟨(Zt (acz bl_) hk_.2.1),(Kd.freshB (g:=gb115) (o:= .cells #[.int .i64 a0_0, .int .i64 a0_1, .int .i64 a0_2] 23 (0,0)) bk_ k_ hk_.2.1)⟩)) (acz bl_))) (Zb (bb_ BK115 hb) (hs_ HB hb));clear BK115 HB;obtain ⟨HO118,BK115,HB⟩:=n_;clear hb ho0))
  go_ret2;exact ⟨_,er_,nl_,bl_⟩
 rw [Ya c4] at H;have c4b0:(t119==0)=true:=Ye c4;have c4b1:(t119 !=0)=false:=Yc c4;clear c4;obtain ⟨⟨t120,t123⟩,A5,H⟩:=ob_ H
 (try dsimp only at H)
 by_cases c6:t116.length+t120.length<5864062014805
 rotate_left
 ·rw [Yb c6] at H;exact Yf H (by simp)
 rw [Ya c6] at H;have LMc6:=Za c6;clear c6;obtain ⟨y124,hy124⟩: ∃y_:List (List Int),y_=(t116++t120):=⟨_,rfl⟩
 first|rw [Zl, <-hy124] at H|rw [<-hy124] at H
 (try dsimp only at H)
 have Ny124:=Za hy124;clear hy124;simp only [Zx,Zy] at H;obtain ⟨rfl,rfl⟩:=H;go_enter Tryz.func24,Tryz.ntmps24
 go_wp2_with (first|((with_reducible refine aUz (N:=2) rfl ?_);refine bx_ 2 #[.int .i64 a0_0, .int .i64 a0_1, .int .i64 a0_2] 23 ?_;intro gb115 hg w7 hbox hb;have n_:=Zb (hs_ HB hb) (Zb (Za (hbox)) (Zb (ag_ HB gb115) (ag_ HB gb115)));clear HB;obtain ⟨HB,BK115,GW115,GE115⟩:=n_;clear hb hbox hg;obtain ⟨hcz8_0,hfz8_0,hcz8_1,hfz8_1,hcz8_2,hfz8_2⟩:=bc3_ BK115.out)|((with_reducible refine abz (f:=55) rfl ?_);refine gl_ (some 12) Tryz.func55 #[.agg #[.int .i64 a0_0, .int .i64 a0_1, .int .i64 a0_2], .slice A1 l1.length c1] ?_;(with_reducible refine (a6z.calls k a0_0 a0_1 a0_2 _ _ l1 t116 t119 _ (xd_ (Kd.aMz HR1.out HB.out)) (HC1.out) A3.out).mono ?_);rintro e w9 ⟨v117,rfl,ho0,hb⟩;refine ⟨_,rfl,?_⟩;have n_:=Zb (Za (Kd.bUz (Kd.bRz (ok':=fun k_=>(w.heap.size<=k_)/\k_≠gb115) (Kd.S_N (Kd.bEz ho0)) (fun k_ hk_=>⟨(Zt (acz bl_) hk_.2.1),(Kd.freshB (g:=gb115) (o:= .cells #[.int .i64 a0_0, .int .i64 a0_1, .int .i64 a0_2] 23 (0,0)) bk_ k_ hk_.2.1)⟩)) (acz bl_))) (Zb (bb_ BK115 hb) (hs_ HB hb));clear BK115 HB;obtain ⟨HO118,BK115,HB⟩:=n_;clear hb ho0;obtain ⟨hcz10_0,hfz10_0,hcz10_1,hfz10_1,hcz10_2,hfz10_2⟩:=bc3_ BK115.out;obtain ⟨Ao11,co11,eo11⟩:=Kd.clz HO118.out;subst eo11)|((with_reducible refine abz (f:=19) rfl ?_);refine gl_ (some 21) Tryz.func19 #[.agg #[.int .i64 a0_0, .int .i64 a0_1, .int .i64 a0_2], .slice Ao11 t116.length co11] ?_;(with_reducible refine (aFz.calls k a0_0 a0_1 a0_2 _ _ t116 t120 t123 _ (xd_ (Kd.btz HO118.out).2.2) ((Kd.btz HO118.out).2.1) A5.out).mono ?_);rintro e w12 ⟨v121,rfl,ho0,hb⟩;refine ⟨_,rfl,?_⟩;have n_:=Zb (Za (Kd.b5z (xd_ HO118.out) (Kd.dhz ho0) hb)) (Zb (Za (Kd.bUz (Kd.bRz (ok':=fun k_=>(w.heap.size<=k_)/\some k_≠(.slice Ao11 t116.length co11:Value).ownBlock/\k_≠gb115) (Kd.S_N (Kd.bEz ho0)) (fun k_ hk_=>⟨(Zt (acz bl_) hk_.2.1),(Kd.fresh' (Kd.N_lt (xd_ HO118.out)) k_ hk_.2.1),(Kd.freshB (g:=gb115) (o:= .cells #[.int .i64 a0_0, .int .i64 a0_1, .int .i64 a0_2] 23 (0,0)) bk_ k_ hk_.2.1)⟩)) (acz bl_))) (Zb (bb_ BK115 hb) (hs_ HB hb)));clear HO118 BK115 HB;obtain ⟨HO118,HO122,BK115,HB⟩:=n_;clear hb ho0;obtain ⟨Ao14,co14,eo14⟩:=Kd.clz HO122.out;subst eo14)|((with_reducible refine anz (b:= .append) (xs:= #[.tmp 24, .tmp 25]) rfl ?_);at_builtin;refine Kd.dnz (Kd.slice 5 (Kd.int .u8)) (w0:=w) w.heap.size rfl (.tmp 24) (.tmp 25) 24 34 (.slice none 0 0) 24 rfl Tryz.underlying24 info34 rfl (by decide) (by omega) (.slice Ao11 t116.length co11) t116 t120 _ _ _ (fun k_=>(w.heap.size<=k_)/\k_≠gb115) (fun k_=>((fun k_=>(w.heap.size<=k_)/\k_≠gb115)) k_/\some k_≠(.slice Ao11 t116.length co11:Value).ownBlock) rfl rfl ?aO ?aR (fun _ hk=>hk) ?aF ?aB ?aS ?aL ?_;(case aR=>exact (by skip;exact Kd.N_F (Kd.bRz (ok':=(fun k_=>((fun k_=>(w.heap.size<=k_)/\k_≠gb115)) k_/\some k_≠(.slice Ao11 t116.length co11:Value).ownBlock)) (HO122.out) (fun k_ hk=>⟨⟨hk.1,hk.2.2⟩,hk.2.1⟩))));(case aB=>exact bl_);(case aF=>exact (fun k_ hk=>⟨(Zt (acz bl_) hk),Kd.freshB (g:=gb115) (o:= .cells #[.int .i64 a0_0, .int .i64 a0_1, .int .i64 a0_2] 23 (0,0)) bk_ k_ hk⟩));(case aO=>exact (nm_ HO118));(case aS=>exact (acz bl_));(case aL=>have:=LMc6.out;omega);intro v125 w13 ho hb hg hat;rw [<-Ny124.out] at ho;have n_:=Zb (Za (czz (g:=gb115) (o:= .cells #[.int .i64 a0_0, .int .i64 a0_1, .int .i64 a0_2] 23 (0,0)) bk_ hg (Kd.N_ne HO118.out BK115.out (by decide)))) (Zb (Za (Kd.caz (ok:=(fun k_=>(w.heap.size<=k_)/\k_≠gb115)) (nm_ HO122) hg hat)) (Zb (Za (hb)) (Za (ho))));clear BK115 HO122 HB HO118;obtain ⟨BK115,HO122,HB,HO126⟩:=n_;clear ho hb hg hat))
 go_ret2;exact ⟨_,er_,nm_ HO126,bl_⟩
def aRz.f (a0:Int):Option (ByteArray×Int×Int×Int×Int×Bool):=if a0=1 then (some ((⟨#[106,118]⟩:ByteArray),8,285,106,4,true)) else (if a0=2 then (some ((⟨#[106,99]⟩:ByteArray),16,69643,106,4,true)) else (if a0=3 then (some ((⟨#[105,114]⟩:ByteArray),8,285,105,3,true)) else (if a0=4 then (some ((⟨#[105,99]⟩:ByteArray),8,285,105,4,true)) else (if a0=5 then (some ((⟨#[98,98]⟩:ByteArray),8,285,98,4,true)) else (if a0=6 then (some ((⟨#[107,112]⟩:ByteArray),8,285,112,4,true)) else (some ((⟨#[]⟩:ByteArray),0,0,0,0,false)))))))
theorem aRz.calls (a0:Int) (r1:ByteArray) (r2:Int) (r3:Int) (r4:Int) (r5:Int) (r6:Bool) (w:World) (h:aRz.f a0=some (r1,r2,r3,r4,r5,r6)):
 Calls Tryz.prog 50 #[.int .i64 a0] w fun e w'=>e= .returned (.tuple #[.agg #[.string r1, .int .i64 r2, .int .u32 r3, .int .u8 r4, .int .i64 r5], .bool r6])/\Below w.heap.size w w':=by
 have hu79:=Tryz.underlying79;have HB:=Za (Zw w.heap.size w);have HH:=Za h;clear h;go_enter Tryz.func50,Tryz.ntmps50
 go_wp2_with (first|((with_reducible refine aUz (N:=2) rfl ?_);refine b4z ?hg (N:=2) ?hd (cs:= #[.string (⟨#[]⟩:ByteArray), .int .i64 0, .int .u32 0, .int .u8 0, .int .i64 0]) (t:=79) ?hr ?_;(case hd=>rfl);(case hg=>rfl);(case hr=>first|(go_simp;done)|(go_simp;rfl));intro gb135 hg w3 hbox hb;have n_:=Zb (hs_ HB hb) (Zb (Za (hbox)) (Zb (ag_ HB gb135) (ag_ HB gb135)));clear HB;obtain ⟨HB,BK135,GW135,GE135⟩:=n_;clear hb hbox hg;obtain ⟨hcz4_0,hfz4_0,hcz4_1,hfz4_1,hcz4_2,hfz4_2,hcz4_3,hfz4_3,hcz4_4,hfz4_4⟩:=bc5_ BK135.out))
 all_goals
  have H:=HH.out;unfold aRz.f at H;refine bodyPost_ret (results_ct rfl _ _ gb135 79 _ (0,0) _ rfl (by first|exact bp5_4 (bp5_3 (bp5_2 (bp5_1 (bp5_0 BK135.out))))|exact BK135.out) Tryz.underlying79 rfl kr_) rfl ?_;refine ⟨?_,bl_⟩
  simp_all
 all_goals (obtain ⟨rfl,rfl,rfl,rfl,rfl,rfl⟩:=H;simp)
def bfz.l0:Nat->List (List Int)->Int->ByteArray->Int->Int->Int->Int->Option (Bool)
 |0,_,_,_,_,_,_,_=>none
 |k+1,x1,x7,x433000,x433001,x433002,x433003,x433004=>if x7<(x1.length:Int) then (if 0<=x7 then (if 0<(x1.length:Int) then (if ((rd_L1 x1 x7).length:Int)=((rd_L1 x1 0).length:Int) then (if x433001=0 then (none) else (if (Int.tmod (wrap64 (8*((rd_L1 x1 x7).length:Int))) x433001)=0 then (bfz.l0 k x1 (wrap64 (x7+1)) x433000 x433001 x433002 x433003 x433004) else (some false))) else (some false)) else (none)) else (none)) else (some true)
def bfz.f (k:Nat) (a0_0:Int) (a0_1:Int) (a0_2:Int) (l1:List (List Int)):Option (Bool):=(aRz.f a0_0).bind fun bt426=>(bfz.l0 k l1 0 bt426.1 bt426.2.1 bt426.2.2.1 bt426.2.2.2.1 bt426.2.2.2.2.1)
theorem bfz.calls (k : Nat) (a0_0 : Int) (a0_1 : Int) (a0_2 : Int) (A1 : Option Addr) (c1 : Nat) (l1 : List (List Int)) (r : Bool) (w : World) (hr1 : Kd.C (Kd.slice 5 (Kd.int .u8)) w A1 l1.length l1) (hc1 : l1.length <= c1) (h : bfz.f k a0_0 a0_1 a0_2 l1 = some r) :
  Calls Tryz.prog 49 #[.agg #[.int .i64 a0_0, .int .i64 a0_1, .int .i64 a0_2], .slice A1 l1.length c1] w fun e w'=>e= .returned (.bool r)/\Below w.heap.size w w':=by
 have hu23:=Tryz.underlying23;have hu79:=Tryz.underlying79;have HR1:=Za hr1;have HC1:=Za hc1;clear hr1 hc1;have HB:=Za (Zw w.heap.size w);have H:=h;clear h;unfold bfz.f at H;obtain ⟨⟨t426,t427,t428,t429,t430,t431⟩,A3,H⟩:=ob_ H
 (try dsimp only at H)
 have H':=Za H;clear H;go_enter Tryz.func49,Tryz.ntmps49
 go_wp2_with (first|((with_reducible refine aUz (N:=2) rfl ?_);(try (refine a5z (by rfl) ?_;dsimp only));refine bx_ 2 #[.int .i64 a0_0, .int .i64 a0_1, .int .i64 a0_2] 23 ?_;intro gb425 hg w4 hbox hb;have n_:=Zb (hs_ HB hb) (Zb (Za (hbox)) (Zb (ag_ HB gb425) (ag_ HB gb425)));clear HB;obtain ⟨HB,BK425,GW425,GE425⟩:=n_;clear hb hbox hg;obtain ⟨hcz5_0,hfz5_0,hcz5_1,hfz5_1,hcz5_2,hfz5_2⟩:=bc3_ BK425.out)|(go_at_call 50;(with_reducible refine (aRz.calls a0_0 t426 t427 t428 t429 t430 t431 _ A3.out).mono ?_);rintro e w6 ⟨rfl,hb⟩;have n_:=Zb (bb_ BK425 hb) (hs_ HB hb);clear BK425 HB;obtain ⟨BK425,HB⟩:=n_;(try clear hb))|((with_reducible refine aUz (N:=5) rfl ?_);(try (refine a5z (by rfl) ?_;dsimp only));refine b4z ?hg (N:=5) ?hd (cs:= #[.string (⟨#[]⟩:ByteArray), .int .i64 0, .int .u32 0, .int .u8 0, .int .i64 0]) (t:=79) ?hr ?_;(case hd=>rfl);(case hg=>rfl);(case hr=>first|(go_simp;done)|(go_simp;rfl));intro gb432 hg w7 hbox hb;have n_:=Zb (bb_ BK425 hb) (Zb (hs_ HB hb) (Zb (Za (hbox)) (Zb (ag_ HB gb432) (Zb (ag_ HB gb432) (Zb (n1_ BK425 gb432) (n2_ BK425 gb432))))));clear BK425 HB;obtain ⟨BK425,HB,BK432,GW432,GE432,NB425_432,NB432_425⟩:=n_;clear hb hbox hg;have hnb8:=NB432_425.out;have hnc8:=NB425_432.out;obtain ⟨hcz9_0,hfz9_0,hcz9_1,hfz9_1,hcz9_2,hfz9_2,hcz9_3,hfz9_3,hcz9_4,hfz9_4⟩:=bc5_ BK432.out))
 repeat (go_quiet (first|((with_reducible refine aUz (N:=2) rfl ?_);(try (refine a5z (by rfl) ?_;dsimp only));refine bx_ 2 #[.int .i64 a0_0, .int .i64 a0_1, .int .i64 a0_2] 23 ?_;intro gb425 hg w4 hbox hb;have n_:=Zb (hs_ HB hb) (Zb (Za (hbox)) (Zb (ag_ HB gb425) (ag_ HB gb425)));clear HB;obtain ⟨HB,BK425,GW425,GE425⟩:=n_;clear hb hbox hg;obtain ⟨hcz5_0,hfz5_0,hcz5_1,hfz5_1,hcz5_2,hfz5_2⟩:=bc3_ BK425.out)|(go_at_call 50;(with_reducible refine (aRz.calls a0_0 t426 t427 t428 t429 t430 t431 _ A3.out).mono ?_);rintro e w6 ⟨rfl,hb⟩;have n_:=Zb (bb_ BK425 hb) (hs_ HB hb);clear BK425 HB;obtain ⟨BK425,HB⟩:=n_;(try clear hb))|((with_reducible refine aUz (N:=5) rfl ?_);(try (refine a5z (by rfl) ?_;dsimp only));refine b4z ?hg (N:=5) ?hd (cs:= #[.string (⟨#[]⟩:ByteArray), .int .i64 0, .int .u32 0, .int .u8 0, .int .i64 0]) (t:=79) ?hr ?_;(case hd=>rfl);(case hg=>rfl);(case hr=>first|(go_simp;done)|(go_simp;rfl));intro gb432 hg w7 hbox hb;have n_:=Zb (bb_ BK425 hb) (Zb (hs_ HB hb) (Zb (Za (hbox)) (Zb (ag_ HB gb432) (Zb (ag_ HB gb432) (Zb (n1_ BK425 gb432) (n2_ BK425 gb432))))));clear BK425 HB;obtain ⟨BK425,HB,BK432,GW432,GE432,NB425_432,NB432_425⟩:=n_;clear hb hbox hg;have hnb8:=NB432_425.out;have hnc8:=NB425_432.out;obtain ⟨hcz9_0,hfz9_0,hcz9_1,hfz9_1,hcz9_2,hfz9_2,hcz9_3,hfz9_3,hcz9_4,hfz9_4⟩:=bc5_ BK432.out));try go_wp2_with (first|((with_reducible refine aUz (N:=2) rfl ?_);(try (refine a5z (by rfl) ?_;dsimp only));refine bx_ 2 #[.int .i64 a0_0, .int .i64 a0_1, .int .i64 a0_2] 23 ?_;intro gb425 hg w4 hbox hb;have n_:=Zb (hs_ HB hb) (Zb (Za (hbox)) (Zb (ag_ HB gb425) (ag_ HB gb425)));clear HB;obtain ⟨HB,BK425,GW425,GE425⟩:=n_;clear hb hbox hg;obtain ⟨hcz5_0,hfz5_0,hcz5_1,hfz5_1,hcz5_2,hfz5_2⟩:=bc3_ BK425.out)|(go_at_call 50;(with_reducible refine (aRz.calls a0_0 t426 t427 t428 t429 t430 t431 _ A3.out).mono ?_);rintro e w6 ⟨rfl,hb⟩;have n_:=Zb (bb_ BK425 hb) (hs_ HB hb);clear BK425 HB;obtain ⟨BK425,HB⟩:=n_;(try clear hb))|((with_reducible refine aUz (N:=5) rfl ?_);(try (refine a5z (by rfl) ?_;dsimp only));refine b4z ?hg (N:=5) ?hd (cs:= #[.string (⟨#[]⟩:ByteArray), .int .i64 0, .int .u32 0, .int .u8 0, .int .i64 0]) (t:=79) ?hr ?_;(case hd=>rfl);(case hg=>rfl);(case hr=>first|(go_simp;done)|(go_simp;rfl));intro gb432 hg w7 hbox hb;have n_:=Zb (bb_ BK425 hb) (Zb (hs_ HB hb) (Zb (Za (hbox)) (Zb (ag_ HB gb432) (Zb (ag_ HB gb432) (Zb (n1_ BK425 gb432) (n2_ BK425 gb432))))));clear BK425 HB;obtain ⟨BK425,HB,BK432,GW432,GE432,NB425_432,NB432_425⟩:=n_;clear hb hbox hg;have hnb8:=NB432_425.out;have hnc8:=NB425_432.out;obtain ⟨hcz9_0,hfz9_0,hcz9_1,hfz9_1,hcz9_2,hfz9_2,hcz9_3,hfz9_3,hcz9_4,hfz9_4⟩:=bc5_ BK432.out)))
 go_loopg [7] k (fun kq v7 w'=> ∃(x7_1:Int),v7= .int .i64 x7_1/\Aside0 (bfz.l0 kq l1 x7_1 t426 t427 t428 t429 t430=some r)/\Aside0 (kq<=k)/\Aside0 (w'.heap[gb425]?=some (.cells #[.int .i64 a0_0, .int .i64 a0_1, .int .i64 a0_2] 23 (0,0)))/\Aside0 (w'.heap[gb432]?=some (.cells #[.string t426, .int .i64 t427, .int .u32 t428, .int .u8 t429, .int .i64 t430] 79 (0,0)))/\Aside0 (Below w.heap.size w w'))
 case atStart=>exact ⟨(0),sd_,H',⟨Zv _⟩,⟨kb_⟩,⟨kb_⟩,⟨bl_⟩⟩
 clear H'
 try clear c1
 try clear p2
 try clear c4
 try clear c8
 try clear hcz5_0
 try clear hcz5_1
 try clear hcz5_2
 try clear hcz9_0
 try clear hcz9_1
 try clear hcz9_2
 try clear hcz9_3
 try clear hcz9_4
 try clear hfz5_0
 try clear hfz5_1
 try clear hfz5_2
 try clear hfz9_0
 try clear hfz9_1
 try clear hfz9_2
 try clear hfz9_3
 try clear hfz9_4
 obtain ⟨x7_1,rfl,HA,HK1,BK425,BK432,HB⟩:=hrel;rcases gk with _|k1
 ·exact Yf HA.out (by simp [bfz.l0])
 have H:=HA.out;clear HA;simp only [bfz.l0] at H;by_cases c10:x7_1<(l1.length:Int)
 rotate_left
 ·rw [Yb c10] at H;have c10b0:=Ze c10;clear c10;obtain rfl:=Zn H;go_wp2
  repeat (go_quiet (fail);try go_wp2)
  go_ret;exact ⟨er_,bl_⟩
 rw [Ya c10] at H;have c10b0:=Zd c10;clear c10;by_cases c11:0<=x7_1
 rotate_left
 ·rw [Yb c11] at H;exact Yf H (by simp)
 rw [Ya c11] at H;have c11b0:=Zd c11;clear c11;by_cases c12:0<(l1.length:Int)
 rotate_left
 ·rw [Yb c12] at H;exact Yf H (by simp)
 rw [Ya c12] at H;have c12b0:=Zd c12;have c12b1:decide (0<l1.length)=true:=Zd (by omega);clear c12;by_cases c13:((rd_L1 l1 x7_1).length:Int)=((rd_L1 l1 0).length:Int)
 rotate_left
 ·rw [Yb c13] at H;have c13b0:(((rd_L1 l1 x7_1).length:Int)==((rd_L1 l1 0).length:Int))=false:=Zq c13;have c13b1:(((rd_L1 l1 x7_1).length:Int) !=((rd_L1 l1 0).length:Int))=true:=Yd c13
  have c13b2:((rd_L1 l1 x7_1).length==(rd_L1 l1 0).length)=false:=by first|simpa using c13|(simp at c13|-;omega)
  obtain rfl:=Zn H;have p433:0<=(x7_1:Int):=Zc as_;have q433:x7_1<(l1.length:Int):=Zc as_;obtain ⟨ad433,A433_0,c433_0,e433,hx433_0,hl433_0,hi433_0⟩:=at_L1 HR1.out x7_1 p433 q433;cases e433
  replace hx433_0:=(HB.out.cell (Zj w _ hx433_0)).trans hx433_0;have HR433_0:=Za hi433_0;have HC433_0:=Za hl433_0;clear hi433_0 hl433_0;replace p433:=Zz p433;replace q433:=Zz q433;have p434:0<=(0:Int):=(by omega);have q434:0<(l1.length:Int):=Zc as_;obtain ⟨ad434,A434_0,c434_0,e434,hx434_0,hl434_0,hi434_0⟩:=at_L1 HR1.out 0 p434 q434;obtain rfl:ad433=ad434:=(by injection e434);have qi434:(0<l1.length)=True:=Zz (by omega)
  (try rw [show ((0:Int)).toNat=0 from rfl] at hx434_0)
  (try rw [Addr.add_zero'] at hx434_0)
  replace hx434_0:=(HB.out.cell (Zj w _ hx434_0)).trans hx434_0;have HR434_0:=Za hi434_0;have HC434_0:=Za hl434_0;clear hi434_0 hl434_0;replace p434:=Zz p434;replace q434:=Zz q434;go_wp2
  repeat (go_quiet (fail);try go_wp2)
  go_ret;exact ⟨er_,bl_⟩
 rw [Ya c13] at H;have c13b0:(((rd_L1 l1 x7_1).length:Int)==((rd_L1 l1 0).length:Int))=true:=Ye c13;have c13b1:(((rd_L1 l1 x7_1).length:Int) !=((rd_L1 l1 0).length:Int))=false:=Yc c13
 have c13b2:((rd_L1 l1 x7_1).length==(rd_L1 l1 0).length)=true:=by first|simpa using c13|(simp at c13|-;omega)
 clear c13;by_cases c14:t427=0
 ·rw [Ya c14] at H;exact Yf H (by simp)
 ·rw [Yb c14] at H;have c14b0:(t427==0)=false:=Zq c14;have c14b1:(t427 !=0)=true:=Yd c14;by_cases c15:(Int.tmod (wrap64 (8*((rd_L1 l1 x7_1).length:Int))) t427)=0
  rotate_left
  ·rw [Yb c15] at H;have c15b0:((Int.tmod (wrap64 (8*((rd_L1 l1 x7_1).length:Int))) t427)==0)=false:=Zq c15;have c15b1:((Int.tmod (wrap64 (8*((rd_L1 l1 x7_1).length:Int))) t427) !=0)=true:=Yd c15;obtain rfl:=Zn H;have p433:0<=(x7_1:Int):=Zc as_;have q433:x7_1<(l1.length:Int):=Zc as_;obtain ⟨ad433,A433_0,c433_0,e433,hx433_0,hl433_0,hi433_0⟩:=at_L1 HR1.out x7_1 p433 q433;cases e433
   replace hx433_0:=(HB.out.cell (Zj w _ hx433_0)).trans hx433_0;have HR433_0:=Za hi433_0;have HC433_0:=Za hl433_0;clear hi433_0 hl433_0;replace p433:=Zz p433;replace q433:=Zz q433;have p434:0<=(0:Int):=(by omega);have q434:0<(l1.length:Int):=Zc as_;obtain ⟨ad434,A434_0,c434_0,e434,hx434_0,hl434_0,hi434_0⟩:=at_L1 HR1.out 0 p434 q434;obtain rfl:ad433=ad434:=(by injection e434);have qi434:(0<l1.length)=True:=Zz (by omega)
   (try rw [show ((0:Int)).toNat=0 from rfl] at hx434_0)
   (try rw [Addr.add_zero'] at hx434_0)
   replace hx434_0:=(HB.out.cell (Zj w _ hx434_0)).trans hx434_0;have HR434_0:=Za hi434_0;have HC434_0:=Za hl434_0;clear hi434_0 hl434_0;replace p434:=Zz p434;replace q434:=Zz q434;have p435:0<=(x7_1:Int):=Zc as_;have q435:x7_1<(l1.length:Int):=Zc as_;obtain ⟨ad435,A435_0,c435_0,e435,hx435_0,hl435_0,hi435_0⟩:=at_L1 HR1.out x7_1 p435 q435;obtain rfl:ad433=ad435:=(by injection e435);replace hx435_0:=(HB.out.cell (Zj w _ hx435_0)).trans hx435_0;have HR435_0:=Za hi435_0;have HC435_0:=Za hl435_0;clear hi435_0 hl435_0;replace p435:=Zz p435;replace q435:=Zz q435;have ea_:=Zn (hx433_0.symm.trans hx435_0);injection ea_ with ea_ en_ ec_
   subst ea_;subst ec_;clear en_;have hnb18:=NB432_425.out;have hnc18:=NB425_432.out;obtain ⟨hcz19_0,hfz19_0,hcz19_1,hfz19_1,hcz19_2,hfz19_2,hcz19_3,hfz19_3,hcz19_4,hfz19_4⟩:=bc5_ BK432.out;go_wp2
   repeat (go_quiet (fail);try go_wp2)
   go_ret;exact ⟨er_,bl_⟩
  rw [Ya c15] at H;have c15b0:((Int.tmod (wrap64 (8*((rd_L1 l1 x7_1).length:Int))) t427)==0)=true:=Ye c15;have c15b1:((Int.tmod (wrap64 (8*((rd_L1 l1 x7_1).length:Int))) t427) !=0)=false:=Yc c15;clear c15;have H':=Za H;clear H;have p433:0<=(x7_1:Int):=Zc as_;have q433:x7_1<(l1.length:Int):=Zc as_;obtain ⟨ad433,A433_0,c433_0,e433,hx433_0,hl433_0,hi433_0⟩:=at_L1 HR1.out x7_1 p433 q433;cases e433
  replace hx433_0:=(HB.out.cell (Zj w _ hx433_0)).trans hx433_0;have HR433_0:=Za hi433_0;have HC433_0:=Za hl433_0;clear hi433_0 hl433_0;replace p433:=Zz p433;replace q433:=Zz q433;have p434:0<=(0:Int):=(by omega);have q434:0<(l1.length:Int):=Zc as_;obtain ⟨ad434,A434_0,c434_0,e434,hx434_0,hl434_0,hi434_0⟩:=at_L1 HR1.out 0 p434 q434;obtain rfl:ad433=ad434:=(by injection e434);have qi434:(0<l1.length)=True:=Zz (by omega)
  (try rw [show ((0:Int)).toNat=0 from rfl] at hx434_0)
  (try rw [Addr.add_zero'] at hx434_0)
  replace hx434_0:=(HB.out.cell (Zj w _ hx434_0)).trans hx434_0;have HR434_0:=Za hi434_0;have HC434_0:=Za hl434_0;clear hi434_0 hl434_0;replace p434:=Zz p434;replace q434:=Zz q434;have p435:0<=(x7_1:Int):=Zc as_;have q435:x7_1<(l1.length:Int):=Zc as_;obtain ⟨ad435,A435_0,c435_0,e435,hx435_0,hl435_0,hi435_0⟩:=at_L1 HR1.out x7_1 p435 q435;obtain rfl:ad433=ad435:=(by injection e435);replace hx435_0:=(HB.out.cell (Zj w _ hx435_0)).trans hx435_0;have HR435_0:=Za hi435_0;have HC435_0:=Za hl435_0;clear hi435_0 hl435_0;replace p435:=Zz p435;replace q435:=Zz q435;have ea_:=Zn (hx433_0.symm.trans hx435_0);injection ea_ with ea_ en_ ec_
  subst ea_;subst ec_;clear en_;have hnb16:=NB432_425.out;have hnc16:=NB425_432.out;obtain ⟨hcz17_0,hfz17_0,hcz17_1,hfz17_1,hcz17_2,hfz17_2,hcz17_3,hfz17_3,hcz17_4,hfz17_4⟩:=bc5_ BK432.out;go_wp2
  repeat (go_quiet (fail);try go_wp2)
  go_roundg k1
  case measure=>have:=HK1.out;omega
  case rel=>exact ⟨(wrap64 (x7_1+1)),sd_,H',⟨by have:=HK1.out;omega⟩,⟨bk_⟩,⟨bk_⟩,⟨bl_⟩⟩
mutual
def aiz.l0:Nat->Int->List (List Int)->Int->Option ((List (List Int)))
 |0,_,_,_=>none
 |k+1,x0,x3,x4=>if x4<x0 then (aiz.j1 k x0 x3 x4 (decide (x0<=20))) else (aiz.j1 k x0 x3 x4 false)
def aiz.j1:Nat->Int->List (List Int)->Int->Bool->Option ((List (List Int)))
 |0,_,_,_,_=>none
 |k+1,x0,x3,x4,x14=>if x14=true then (aiz.l1 k x0 x3 x4 ([] :List Int) 0) else (some x3)
def aiz.l1:Nat->Int->List (List Int)->Int->List Int->Int->Option ((List (List Int)))
 |0,_,_,_,_,_=>none
 |k+1,x0,x3,x4,x5,x6=>if x6<x0 then (if x4=x6 then (if x5.length<17592186044416 then (aiz.l1 k x0 x3 x4 (x5++ [1]) (wrap64 (x6+1))) else (none)) else (if x5.length<17592186044416 then (aiz.l1 k x0 x3 x4 (x5++ [0]) (wrap64 (x6+1))) else (none))) else (if x3.length<5864062014805 then (aiz.l0 k x0 (x3++ [x5]) (wrap64 (x4+1))) else (none))
end
def aiz.f (k:Nat) (a0:Int):Option ((List (List Int))):=aiz.l0 k a0 ([] :List (List Int)) 0
theorem aiz.aWz: ∀k,(∀y0 y1 y2,LeO (aiz.l0 k y0 y1 y2) (aiz.l0 (k+1) y0 y1 y2))/\(∀y0 y1 y2 y3,LeO (aiz.j1 k y0 y1 y2 y3) (aiz.j1 (k+1) y0 y1 y2 y3))/\(∀y0 y1 y2 y3 y4,LeO (aiz.l1 k y0 y1 y2 y3 y4) (aiz.l1 (k+1) y0 y1 y2 y3 y4))
 |0=>⟨fun _ _ _ r h=>by simp [aiz.l0] at h,fun _ _ _ _ r h=>by simp [aiz.j1] at h,fun _ _ _ _ _ r h=>by simp [aiz.l1] at h⟩
 |k+1=>by
  obtain ⟨ih0,ih1,ih2⟩:=aiz.aWz k;refine ⟨?_,?_,?_⟩
  ·intro y0 y1 y2;unfold aiz.l0
   repeat' with_reducible first|apply ih0|apply ih1|apply ih2|apply LeO.refl|apply LeO.none|apply LeO.ite|refine LeO.bind ?_ fun _=>?_
  ·intro y0 y1 y2 y3;unfold aiz.j1
   repeat' with_reducible first|apply ih0|apply ih1|apply ih2|apply LeO.refl|apply LeO.none|apply LeO.ite|refine LeO.bind ?_ fun _=>?_
  ·intro y0 y1 y2 y3 y4;unfold aiz.l1
   repeat' with_reducible first|apply ih0|apply ih1|apply ih2|apply LeO.refl|apply LeO.none|apply LeO.ite|refine LeO.bind ?_ fun _=>?_
theorem aiz.mono: ∀a0 k,LeO (aiz.f k a0) (aiz.f (k+1) a0):=by
 intro a0 k;obtain ⟨ih0,ih1,ih2⟩:=aiz.aWz k;unfold aiz.f
 repeat' with_reducible first|apply ih0|apply ih1|apply ih2|apply LeO.refl|apply LeO.none|apply LeO.ite|refine LeO.bind ?_ fun _=>?_
theorem aiz.calls (k : Nat) (a0 : Int) (r : List (List Int)) (w : World) (h : aiz.f k a0 = some r) :
  Calls Tryz.prog 62 #[.int .i64 a0] w fun e w'=> ∃v0_:Value,e= .returned (v0_)/\Kd.S (Kd.slice 3 (Kd.int .i64)) 57 w' w.heap.size (fun _=>True) v0_ r/\Below w.heap.size w w':=by
 have HB:=Za (Zw w.heap.size w);have H:=h;clear h;unfold aiz.f at H;have H':=Za H;clear H;go_enter Tryz.func62,Tryz.ntmps62;go_wp2
 go_loopg [3,4] k (fun kq v3 v4 w'=> ∃(x3_1:List (List Int)) (x4_1:Int),v4= .int .i64 x4_1/\Aside0 (aiz.l0 kq a0 x3_1 x4_1=some r)/\Aside0 (kq<=k)/\Aside0 (Kd.S (Kd.slice 3 (Kd.int .i64)) 57 w' w.heap.size (fun _=>True) v3 x3_1)/\Aside0 (Below w.heap.size w w'))
 case atStart=>exact ⟨(([] :List (List Int))),(0),sd_,H',⟨Zv _⟩,⟨nl_⟩,⟨bl_⟩⟩
 clear H';obtain ⟨x3_1,x4_1,rfl,HA,HK1,HO_3,HB⟩:=hrel;rcases gk with _|k1
 ·exact Yf HA.out (by simp [aiz.l0])
 have H:=HA.out;clear HA;simp only [aiz.l0] at H;have HC2:=Za H;clear H
 go_upto_region 3 with (fail)
 go_cut [14] (fun v14 wc=> ∃(kq:Nat) (x14_1:Bool),v14= .bool x14_1/\Aside0 (aiz.j1 kq a0 x3_1 x4_1 x14_1=some r)/\Aside0 (kq<=k1)/\Aside0 (Kd.S (Kd.slice 3 (Kd.int .i64)) 57 wc w.heap.size (fun _=>True) u3 x3_1)/\Aside0 (Below w.heap.size w wc))
 case first=>
  have H:=HC2.out;clear HC2;by_cases c3:x4_1<a0
  ·rw [Ya c3] at H;have c3b0:=Zd c3;clear c3
   (first|rw [c3b0] |(simp only [i64_w,i32_w];rw [c3b0])|skip)
   have H':=Za H;clear H;go_wp2
   go_meet
   case rel=>exact ⟨_,(decide (a0<=20)),sd_,H',⟨by have:=HK1.out;first|omega|exact Zv _⟩,⟨xd_ HO_3.out⟩,⟨bl_⟩⟩
  ·rw [Yb c3] at H;have c3b0:=Ze c3;clear c3
   (first|rw [c3b0] |(simp only [i64_w,i32_w];rw [c3b0])|skip)
   have H':=Za H;clear H;go_wp2
   go_meet
   case rel=>exact ⟨_,(false),sd_,H',⟨by have:=HK1.out;first|omega|exact Zv _⟩,⟨xd_ HO_3.out⟩,⟨bl_⟩⟩
 case rest=>
  clear HC2
  try clear p2
  try clear c3
  try clear c3b0
  obtain ⟨kq,x14_1,rfl,HA,HJ1,HO_3,HB⟩:=hcut;rcases kq with _|kj1
  ·exact Yf HA.out (by simp [aiz.j1])
  have H:=HA.out;clear HA;simp only [aiz.j1] at H;by_cases c4:x14_1=true
  rotate_left
  ·replace c4:=Zr c4;subst c4;rw [Yb (show¬(false=true) by decide)] at H;obtain rfl:=Zn H;go_wp2;go_ret;exact ⟨_,er_,xd_ HO_3.out,bl_⟩
  subst c4;rw [Ya rfl] at H;have H':=Za H;clear H;go_wp2
  go_loopg [5,6] kj1 (fun kq v5 v6 w'=> ∃(x5_3:List Int) (x6_3:Int),v6= .int .i64 x6_3/\Aside0 (aiz.l1 kq a0 x3_1 x4_1 x5_3 x6_3=some r)/\Aside0 (kq<=kj1)/\Aside0 (Kd.S (Kd.slice 3 (Kd.int .i64)) 57 w' w.heap.size (fun k_=>some k_≠(v5:Value).ownBlock) u3 x3_1)/\Aside0 (Kd.R (Kd.int .i64) 3 w' w.heap.size (fun _=>True) v5 x5_3)/\Aside0 (Below w.heap.size w w'))
  case atStart=>exact ⟨(([] :List Int)),(0),sd_,H',⟨Zv _⟩,⟨sm_ HO_3⟩,⟨nl_⟩,⟨bl_⟩⟩
  clear H'
  try clear p2
  try clear c3
  try clear c3b0
  try clear c4
  try clear p2
  obtain ⟨x5_3,x6_3,rfl,HA,HK3,HO_3,HO_5,HB⟩:=hrel;rcases gk with _|k3
  ·exact Yf HA.out (by simp [aiz.l1])
  have H:=HA.out;clear HA;simp only [aiz.l1] at H;by_cases c5:x6_3<a0
  rotate_left
  ·rw [Yb c5] at H;have c5b0:=Ze c5;clear c5;by_cases c11:x3_1.length<5864062014805
   rotate_left
   ·rw [Yb c11] at H;exact Yf H (by simp)
   rw [Ya c11] at H;have LMc11:=Za c11;clear c11;obtain ⟨y442,hy442⟩: ∃y_:List (List Int),y_=(x3_1++ [x5_3]):=⟨_,rfl⟩
   first|rw [Zl, <-hy442] at H|rw [<-hy442] at H
   (try dsimp only at H)
   have Ny442:=Za hy442;clear hy442;have H':=Za H;clear H;obtain ⟨Ao13,co13,eo13⟩:=Kd.a7z HO_5.out;subst eo13
   go_wp2_with (first|((with_reducible refine anz (b:= .append) (xs:= #[.tmp 29, .tmp 31]) rfl ?_);at_builtin;refine Kd.bPz (Kd.slice 3 (Kd.int .i64)) (w0:=w) w.heap.size rfl (.tmp 29) (.tmp 31) 68 57 (.slice none 0 0) 24 rfl Tryz.underlying68 info57 rfl (by decide) (by omega) u3 x3_1 x5_3 [.slice Ao13 x5_3.length co13] (fun _=>True) (fun k_=>some k_=(.slice Ao13 x5_3.length co13:Value).ownBlock) rfl rfl ?aP (fun k_ hk_=>((Kd.aQz (ok':=fun k_=>((fun _=>True)) k_/\some k_≠(u3:Value).ownBlock) (Kd.bpz (HO_5.out) (Kd.bBz HO_3.out) (by decide)) (fun k_ hk=>⟨trivial,hk.2⟩))).1 k_ hk_.symm) ?aF ?aO ?aB ?aS ?aL ?_;(case aP=>exact Kd.M_row (Kd.aQz (Kd.b3z rfl (Kd.aQz (ok':=fun k_=>((fun _=>True)) k_/\some k_≠(u3:Value).ownBlock) (Kd.bpz (HO_5.out) (Kd.bBz HO_3.out) (by decide)) (fun k_ hk=>⟨trivial,hk.2⟩))) (fun _ h_=>h_)));(case aB=>exact bl_);(case aF=>exact (fun _ _=>trivial));(case aO=>exact (sm_ HO_3));(case aS=>exact (acz bl_));(case aL=>have:=LMc11.out;omega);intro v443 w12 ho hb hg hat;rw [<-Ny442.out] at ho;have n_:=Zb (Za (hb)) (Za (ho));clear HB HO_3 HO_5;obtain ⟨HB,HO444⟩:=n_;clear ho hb hg hat))
   go_roundg k3
   case measure=>have:=HK1.out;have:=HJ1.out;have:=HK3.out;omega
   case rel=>exact ⟨(y442),(wrap64 (x4_1+1)),sd_,H',⟨by have:=HK1.out;have:=HJ1.out;have:=HK3.out;omega⟩,⟨xd_ HO444.out⟩,⟨bl_⟩⟩
  rw [Ya c5] at H;have c5b0:=Zd c5;clear c5;by_cases c6:x4_1=x6_3
  rotate_left
  ·rw [Yb c6] at H;have c6b0:(x4_1==x6_3)=false:=Zq c6;have c6b1:(x4_1 !=x6_3)=true:=Yd c6;by_cases c9:x5_3.length<17592186044416
   rotate_left
   ·rw [Yb c9] at H;exact Yf H (by simp)
   rw [Ya c9] at H;have LMc9:=Za c9;clear c9;obtain ⟨y439,hy439⟩: ∃y_:List Int,y_=(x5_3++ [0]):=⟨_,rfl⟩
   first|rw [Zl, <-hy439] at H|rw [<-hy439] at H
   (try dsimp only at H)
   have Ny439:=Za hy439;clear hy439;have H':=Za H;clear H
   go_wp2_with (first|((with_reducible refine anz (b:= .append) (xs:= #[.tmp 25, .tmp 27]) rfl ?_);at_builtin;refine Kd.bjz (Kd.int .i64) (w0:=w) w.heap.size rfl (.tmp 25) (.tmp 27) 57 3 (.int .i64 0) 8 rfl Tryz.underlying57 info3 rfl (by decide) (by omega) u5 x5_3 0 [.int .i64 0] (fun _=>True) (fun _=>False) rfl rfl ?aP (fun _ hk=>hk.elim) ?aF ?aO ?aB ?aS ?aL ?_;(case aP=>exact rfl);(case aB=>exact bl_);(case aF=>exact (fun _ _=>trivial));(case aO=>exact (xd_ HO_5.out));(case aS=>exact (acz bl_));(case aL=>have:=LMc9.out;omega);intro v440 w10 ho hb hg hat;rw [<-Ny439.out] at ho;have n_:=Zb (Za (Kd.cwz (ok:=(fun _=>True)) (sm_ HO_3) hg hat)) (Zb (Za (hb)) (Za (ho)));clear HO_3 HB HO_5;obtain ⟨HO_3,HB,HO441⟩:=n_;clear ho hb hg hat))
   go_roundg k3
   case measure=>have:=HK1.out;have:=HJ1.out;have:=HK3.out;omega
   case rel=>exact ⟨(y439),(wrap64 (x6_3+1)),sd_,H',⟨by have:=HK1.out;have:=HJ1.out;have:=HK3.out;omega⟩,⟨sm_ HO_3⟩,⟨xd_ HO441.out⟩,⟨bl_⟩⟩
  rw [Ya c6] at H;have c6b0:(x4_1==x6_3)=true:=Ye c6;have c6b1:(x4_1 !=x6_3)=false:=Yc c6;clear c6;by_cases c7:x5_3.length<17592186044416
  rotate_left
  ·rw [Yb c7] at H;exact Yf H (by simp)
  rw [Ya c7] at H;have LMc7:=Za c7;clear c7;obtain ⟨y436,hy436⟩: ∃y_:List Int,y_=(x5_3++ [1]):=⟨_,rfl⟩
  first|rw [Zl, <-hy436] at H|rw [<-hy436] at H
  (try dsimp only at H)
  have Ny436:=Za hy436;clear hy436;have H':=Za H;clear H
  go_wp2_with (first|((with_reducible refine anz (b:= .append) (xs:= #[.tmp 25, .tmp 27]) rfl ?_);at_builtin;refine Kd.bjz (Kd.int .i64) (w0:=w) w.heap.size rfl (.tmp 25) (.tmp 27) 57 3 (.int .i64 0) 8 rfl Tryz.underlying57 info3 rfl (by decide) (by omega) u5 x5_3 1 [.int .i64 1] (fun _=>True) (fun _=>False) rfl rfl ?aP (fun _ hk=>hk.elim) ?aF ?aO ?aB ?aS ?aL ?_;(case aP=>exact rfl);(case aB=>exact bl_);(case aF=>exact (fun _ _=>trivial));(case aO=>exact (xd_ HO_5.out));(case aS=>exact (acz bl_));(case aL=>have:=LMc7.out;omega);intro v437 w8 ho hb hg hat;rw [<-Ny436.out] at ho;have n_:=Zb (Za (Kd.cwz (ok:=(fun _=>True)) (sm_ HO_3) hg hat)) (Zb (Za (hb)) (Za (ho)));clear HO_3 HB HO_5;obtain ⟨HO_3,HB,HO438⟩:=n_;clear ho hb hg hat))
  go_roundg k3
  case measure=>have:=HK1.out;have:=HJ1.out;have:=HK3.out;omega
  case rel=>exact ⟨(y436),(wrap64 (x6_3+1)),sd_,H',⟨by have:=HK1.out;have:=HJ1.out;have:=HK3.out;omega⟩,⟨sm_ HO_3⟩,⟨xd_ HO438.out⟩,⟨bl_⟩⟩
def axz.l0:Nat->Int->Int->Int->Option (Int)
 |0,_,_,_=>none
 |k+1,x0,x3,x4=>if x4<x0 then (axz.l0 k x0 (wrap64 (2*x3)) (wrap64 (x4+1))) else (some x3)
def axz.f (k:Nat) (a0:Int):Option (Int):=axz.l0 k a0 1 0
theorem axz.aWz: ∀k,(∀y0 y1 y2,LeO (axz.l0 k y0 y1 y2) (axz.l0 (k+1) y0 y1 y2))
 |0=>fun _ _ _ r h=>by simp [axz.l0] at h
 |k+1=>by
  have ih0:=axz.aWz k
  ·intro y0 y1 y2;unfold axz.l0
   repeat' with_reducible first|apply ih0|apply LeO.refl|apply LeO.none|apply LeO.ite|refine LeO.bind ?_ fun _=>?_
theorem axz.mono: ∀a0 k,LeO (axz.f k a0) (axz.f (k+1) a0):=by
 intro a0 k;have ih0:=axz.aWz k;unfold axz.f
 repeat' with_reducible first|apply ih0|apply LeO.refl|apply LeO.none|apply LeO.ite|refine LeO.bind ?_ fun _=>?_
theorem axz.calls (k : Nat) (a0 : Int) (r : Int) (w : World) (h : axz.f k a0 = some r) :
  Calls Tryz.prog 156 #[.int .i64 a0] w fun e w'=>e= .returned (.int .i64 r)/\Drawn0 w w':=by
 have H:=h;clear h;unfold axz.f at H;have H':=Za H;clear H;go_enter Tryz.func156,Tryz.ntmps156;go_wp2
 go_loopg [3,4] k (fun kq v3 v4 w'=> ∃(x3_1:Int) (x4_1:Int),v3= .int .i64 x3_1/\v4= .int .i64 x4_1/\Aside0 (axz.l0 kq a0 x3_1 x4_1=some r)/\Aside0 (kq<=k)/\Drawn0 w w')
 case atStart=>exact ⟨(1),(0),sd_,sd_,H',⟨Zv _⟩,dn_⟩
 clear H'
 try clear c1
 obtain ⟨x3_1,x4_1,rfl,rfl,HA,HK1,⟨m1,rfl⟩⟩:=hrel;rcases gk with _|k1
 ·exact Yf HA.out (by simp [axz.l0])
 have H:=HA.out;clear HA;simp only [axz.l0] at H;by_cases c2:x4_1<a0
 ·rw [Ya c2] at H;have c2b0:=Zd c2;clear c2;have H':=Za H;clear H;go_wp2
  go_roundg k1
  case measure=>have:=HK1.out;omega
  case rel=>exact ⟨(wrap64 (2*x3_1)),(wrap64 (x4_1+1)),sd_,sd_,H',⟨by have:=HK1.out;omega⟩,dn_⟩
 ·rw [Yb c2] at H;have c2b0:=Ze c2;clear c2;obtain rfl:=Zn H;go_wp2;go_ret;exact ⟨sd_,dn_⟩
def aTz.l0:Nat->List (List Int)->Int->Int->Option (Int)
 |0,_,_,_=>none
 |k+1,x0,x2,x7=>if x7<(x0.length:Int) then (if 0<=x7 then (if 0<=x2 then (if x2<((rd_L4 x0 x7).length:Int) then (if (rd (rd_L4 x0 x7) x2)=0 then (aTz.l0 k x0 x2 (wrap64 (x7+1))) else (some x7)) else (none)) else (none)) else (none)) else (some (-1))
def aTz.f (k:Nat) (l0:List (List Int)) (a1:Int) (a2:Int):Option (Int):=aTz.l0 k l0 a2 a1
theorem aTz.aWz: ∀k,(∀y0 y1 y2,LeO (aTz.l0 k y0 y1 y2) (aTz.l0 (k+1) y0 y1 y2))
 |0=>fun _ _ _ r h=>by simp [aTz.l0] at h
 |k+1=>by
  have ih0:=aTz.aWz k
  ·intro y0 y1 y2;unfold aTz.l0
   repeat' with_reducible first|apply ih0|apply LeO.refl|apply LeO.none|apply LeO.ite|refine LeO.bind ?_ fun _=>?_
theorem aTz.mono: ∀a0 a1 a2 k,LeO (aTz.f k a0 a1 a2) (aTz.f (k+1) a0 a1 a2):=by
 intro a0 a1 a2 k;have ih0:=aTz.aWz k;unfold aTz.f
 repeat' with_reducible first|apply ih0|apply LeO.refl|apply LeO.none|apply LeO.ite|refine LeO.bind ?_ fun _=>?_
theorem aTz.calls (k : Nat) (A0 : Option Addr) (c0 : Nat) (l0 : List (List Int)) (a1 : Int) (a2 : Int) (r : Int) (w : World) (hr0 : Kd.C (Kd.slice 3 (Kd.int .i64)) w A0 l0.length l0) (hc0 : l0.length <= c0) (h : aTz.f k l0 a1 a2 = some r) :
  Calls Tryz.prog 145 #[.slice A0 l0.length c0, .int .i64 a1, .int .i64 a2] w fun e w'=>e= .returned (.int .i64 r)/\Drawn0 w w':=by
 have HR0:=Za hr0;have HC0:=Za hc0;clear hr0 hc0;have H:=h;clear h;unfold aTz.f at H;have H':=Za H;clear H;go_enter Tryz.func145,Tryz.ntmps145;go_wp2
 go_loopg [7] k (fun kq v7 w'=> ∃(x7_1:Int),v7= .int .i64 x7_1/\Aside0 (aTz.l0 kq l0 a2 x7_1=some r)/\Aside0 (kq<=k)/\Drawn0 w w')
 case atStart=>exact ⟨(a1),sd_,H',⟨Zv _⟩,dn_⟩
 clear H'
 try clear c1
 try clear p2
 obtain ⟨x7_1,rfl,HA,HK1,⟨m1,rfl⟩⟩:=hrel;rcases gk with _|k1
 ·exact Yf HA.out (by simp [aTz.l0])
 have H:=HA.out;clear HA;simp only [aTz.l0] at H;by_cases c4:x7_1<(l0.length:Int)
 rotate_left
 ·rw [Yb c4] at H;have c4b0:=Ze c4;clear c4;obtain rfl:=Zn H;go_wp2;go_ret;exact ⟨sd_,dn_⟩
 rw [Ya c4] at H;have c4b0:=Zd c4;clear c4;by_cases c5:0<=x7_1
 rotate_left
 ·rw [Yb c5] at H;exact Yf H (by simp)
 rw [Ya c5] at H;have c5b0:=Zd c5;clear c5;by_cases c6:0<=a2
 rotate_left
 ·rw [Yb c6] at H;exact Yf H (by simp)
 rw [Ya c6] at H;have c6b0:=Zd c6;clear c6;by_cases c7:a2<((rd_L4 l0 x7_1).length:Int)
 rotate_left
 ·rw [Yb c7] at H;exact Yf H (by simp)
 rw [Ya c7] at H;have c7b0:=Zd c7;clear c7;by_cases c8:(rd (rd_L4 l0 x7_1) a2)=0
 rotate_left
 ·rw [Yb c8] at H;have c8b0:((rd (rd_L4 l0 x7_1) a2)==0)=false:=Zq c8;have c8b1:((rd (rd_L4 l0 x7_1) a2) !=0)=true:=Yd c8;obtain rfl:=Zn H;have p453:0<=(x7_1:Int):=Zc as_;have q453:x7_1<(l0.length:Int):=Zc as_;obtain ⟨ad453,A453_0,c453_0,e453,hx453_0,hl453_0,hi453_0⟩:=at_L4 HR0.out x7_1 p453 q453;cases e453
  have HR453_0:=Za hi453_0;have HC453_0:=Za hl453_0;clear hi453_0 hl453_0;replace p453:=Zz p453;replace q453:=Zz q453;have p454:0<=(a2:Int):=Zc as_;have q454:a2<((rd_L4 l0 x7_1).length:Int):=Zc as_;obtain ⟨ad454,e454,hx454_0⟩:=Kd.bqz HR453_0.out a2 p454 q454;cases e454
  replace p454:=Zz p454;replace q454:=Zz q454;go_wp2;go_ret;exact ⟨sd_,dn_⟩
 rw [Ya c8] at H;have c8b0:((rd (rd_L4 l0 x7_1) a2)==0)=true:=Ye c8;have c8b1:((rd (rd_L4 l0 x7_1) a2) !=0)=false:=Yc c8;clear c8;have H':=Za H;clear H;have p453:0<=(x7_1:Int):=Zc as_;have q453:x7_1<(l0.length:Int):=Zc as_;obtain ⟨ad453,A453_0,c453_0,e453,hx453_0,hl453_0,hi453_0⟩:=at_L4 HR0.out x7_1 p453 q453;cases e453
 have HR453_0:=Za hi453_0;have HC453_0:=Za hl453_0;clear hi453_0 hl453_0;replace p453:=Zz p453;replace q453:=Zz q453;have p454:0<=(a2:Int):=Zc as_;have q454:a2<((rd_L4 l0 x7_1).length:Int):=Zc as_;obtain ⟨ad454,e454,hx454_0⟩:=Kd.bqz HR453_0.out a2 p454 q454;cases e454
 replace p454:=Zz p454;replace q454:=Zz q454;go_wp2
 go_roundg k1
 case measure=>have:=HK1.out;omega
 case rel=>exact ⟨(wrap64 (x7_1+1)),sd_,H',⟨by have:=HK1.out;omega⟩,dn_⟩
def awz.l0:Nat->Int->Int->Option (Int)
 |0,_,_=>none
 |k+1,x0,x3=>if x0>0 then (awz.l0 k (IntKind.u64.wrap (Int.tdiv x0 2)) (wrap64 (x3+1))) else (some x3)
def awz.f (k:Nat) (a0:Int):Option (Int):=awz.l0 k a0 (-1)
theorem awz.aWz: ∀k,(∀y0 y1,LeO (awz.l0 k y0 y1) (awz.l0 (k+1) y0 y1))
 |0=>fun _ _ r h=>by simp [awz.l0] at h
 |k+1=>by
  have ih0:=awz.aWz k
  ·intro y0 y1;unfold awz.l0
   repeat' with_reducible first|apply ih0|apply LeO.refl|apply LeO.none|apply LeO.ite|refine LeO.bind ?_ fun _=>?_
theorem awz.mono: ∀a0 k,LeO (awz.f k a0) (awz.f (k+1) a0):=by
 intro a0 k;have ih0:=awz.aWz k;unfold awz.f
 repeat' with_reducible first|apply ih0|apply LeO.refl|apply LeO.none|apply LeO.ite|refine LeO.bind ?_ fun _=>?_
theorem awz.calls (k : Nat) (a0 : Int) (r : Int) (w : World) (h : awz.f k a0 = some r) :
  Calls Tryz.prog 194 #[.int .u64 a0] w fun e w'=>e= .returned (.int .i64 r)/\Drawn0 w w':=by
 have H:=h;clear h;unfold awz.f at H;have H':=Za H;clear H;go_enter Tryz.func194,Tryz.ntmps194;go_wp2
 go_loopg [0,3] k (fun kq v0 v3 w'=> ∃(x0_1:Int) (x3_1:Int),v0= .int .u64 x0_1/\v3= .int .i64 x3_1/\Aside0 (awz.l0 kq x0_1 x3_1=some r)/\Aside0 (kq<=k)/\Drawn0 w w')
 case atStart=>exact ⟨(a0),((-1)),sd_,sd_,H',⟨Zv _⟩,dn_⟩
 clear H'
 try clear c1
 obtain ⟨x0_1,x3_1,rfl,rfl,HA,HK1,⟨m1,rfl⟩⟩:=hrel;rcases gk with _|k1
 ·exact Yf HA.out (by simp [awz.l0])
 have H:=HA.out;clear HA;simp only [awz.l0] at H;by_cases c2:x0_1>0
 ·rw [Ya c2] at H;have c2b0:decide (0<x0_1)=true:=Zd c2;clear c2;have H':=Za H;clear H;go_wp2
  go_roundg k1
  case measure=>have:=HK1.out;omega
  case rel=>exact ⟨(IntKind.u64.wrap (Int.tdiv x0_1 2)),(wrap64 (x3_1+1)),sd_,sd_,H',⟨by have:=HK1.out;omega⟩,dn_⟩
 ·rw [Yb c2] at H;have c2b0:decide (0<x0_1)=false:=Ze c2;clear c2;obtain rfl:=Zn H;go_wp2;go_ret;exact ⟨sd_,dn_⟩
def aDz.l0:Nat->Int->Int->Int->Option (Int)
 |0,_,_,_=>none
 |k+1,x0,x3,x4=>if x4<x0 then (aDz.l0 k x0 (IntKind.u64.wrap (2*x3)) (wrap64 (x4+1))) else (some x3)
def aDz.f (k:Nat) (a0:Int):Option (Int):=aDz.l0 k a0 1 0
theorem aDz.aWz: ∀k,(∀y0 y1 y2,LeO (aDz.l0 k y0 y1 y2) (aDz.l0 (k+1) y0 y1 y2))
 |0=>fun _ _ _ r h=>by simp [aDz.l0] at h
 |k+1=>by
  have ih0:=aDz.aWz k
  ·intro y0 y1 y2;unfold aDz.l0
   repeat' with_reducible first|apply ih0|apply LeO.refl|apply LeO.none|apply LeO.ite|refine LeO.bind ?_ fun _=>?_
theorem aDz.mono: ∀a0 k,LeO (aDz.f k a0) (aDz.f (k+1) a0):=by
 intro a0 k;have ih0:=aDz.aWz k;unfold aDz.f
 repeat' with_reducible first|apply ih0|apply LeO.refl|apply LeO.none|apply LeO.ite|refine LeO.bind ?_ fun _=>?_
theorem aDz.calls (k : Nat) (a0 : Int) (r : Int) (w : World) (h : aDz.f k a0 = some r) :
  Calls Tryz.prog 195 #[.int .i64 a0] w fun e w'=>e= .returned (.int .u64 r)/\Drawn0 w w':=by
 have H:=h;clear h;unfold aDz.f at H;have H':=Za H;clear H;go_enter Tryz.func195,Tryz.ntmps195;go_wp2
 go_loopg [3,4] k (fun kq v3 v4 w'=> ∃(x3_1:Int) (x4_1:Int),v3= .int .u64 x3_1/\v4= .int .i64 x4_1/\Aside0 (aDz.l0 kq a0 x3_1 x4_1=some r)/\Aside0 (kq<=k)/\Drawn0 w w')
 case atStart=>exact ⟨(1),(0),sd_,sd_,H',⟨Zv _⟩,dn_⟩
 clear H'
 try clear c1
 obtain ⟨x3_1,x4_1,rfl,rfl,HA,HK1,⟨m1,rfl⟩⟩:=hrel;rcases gk with _|k1
 ·exact Yf HA.out (by simp [aDz.l0])
 have H:=HA.out;clear HA;simp only [aDz.l0] at H;by_cases c2:x4_1<a0
 ·rw [Ya c2] at H;have c2b0:=Zd c2;clear c2;have H':=Za H;clear H;go_wp2
  go_roundg k1
  case measure=>have:=HK1.out;omega
  case rel=>exact ⟨(IntKind.u64.wrap (2*x3_1)),(wrap64 (x4_1+1)),sd_,sd_,H',⟨by have:=HK1.out;omega⟩,dn_⟩
 ·rw [Yb c2] at H;have c2b0:=Ze c2;clear c2;obtain rfl:=Zn H;go_wp2;go_ret;exact ⟨sd_,dn_⟩
def azz.l0:Nat->Int->Int->Int->Option (Int)
 |0,_,_,_=>none
 |k+1,x0,x1,x5=>(awz.f k x0).bind fun t456=>(if t456>=x5 then ((awz.f k x0).bind fun t457=>((aDz.f k (wrap64 (t457 - x5))).bind fun t458=>(azz.l0 k (Go.bits .xor .u64 x0 (IntKind.u64.wrap ((IntKind.u64.wrap (x1))*t458))) x1 x5))) else (some ((x0) % 4294967296)))
def azz.f (k:Nat) (a0:Int) (a1:Int):Option (Int):=if a1=0 then (some 0) else ((awz.f k (IntKind.u64.wrap (a1))).bind fun t455=>(azz.l0 k a0 a1 t455))
theorem azz.aWz: ∀k,(∀y0 y1 y2,LeO (azz.l0 k y0 y1 y2) (azz.l0 (k+1) y0 y1 y2))
 |0=>fun _ _ _ r h=>by simp [azz.l0] at h
 |k+1=>by
  have ih0:=azz.aWz k
  ·intro y0 y1 y2;unfold azz.l0
   repeat' with_reducible first|apply ih0|apply awz.mono|apply aDz.mono|apply LeO.refl|apply LeO.none|apply LeO.ite|refine LeO.bind ?_ fun _=>?_
theorem azz.mono: ∀a0 a1 k,LeO (azz.f k a0 a1) (azz.f (k+1) a0 a1):=by
 intro a0 a1 k;have ih0:=azz.aWz k;unfold azz.f
 repeat' with_reducible first|apply ih0|apply awz.mono|apply aDz.mono|apply LeO.refl|apply LeO.none|apply LeO.ite|refine LeO.bind ?_ fun _=>?_
theorem azz.calls (k : Nat) (a0 : Int) (a1 : Int) (r : Int) (w : World) (h : azz.f k a0 a1 = some r) :
  Calls Tryz.prog 180 #[.int .u64 a0, .int .u32 a1] w fun e w'=>e= .returned (.int .u32 r)/\Drawn0 w w':=by
 have H:=h;clear h;unfold azz.f at H;by_cases c3:a1=0
 ·rw [Ya c3] at H;have c3b0:(a1==0)=true:=Ye c3;have c3b1:(a1 !=0)=false:=Yc c3;clear c3;obtain rfl:=Zn H;go_enter Tryz.func180,Tryz.ntmps180;go_wp2;go_ret;exact ⟨sd_,dn_⟩
 ·rw [Yb c3] at H;have c3b0:(a1==0)=false:=Zq c3;have c3b1:(a1 !=0)=true:=Yd c3;obtain ⟨t455,A4,H⟩:=ob_ H
  (try dsimp only at H)
  have H':=Za H;clear H;go_enter Tryz.func180,Tryz.ntmps180
  go_wp2_with (first|((with_reducible refine abz (f:=194) rfl ?_);refine gl_ (some 10) Tryz.func194 #[.int .u64 (IntKind.u64.wrap (a1))] ?_;(with_reducible refine (awz.calls k (IntKind.u64.wrap (a1)) t455 _ A4.out).mono ?_);rintro e w' ⟨rfl,⟨nd,rfl⟩⟩;refine ⟨_,rfl,?_⟩))
  go_loopg [0] k (fun kq v0 w'=> ∃(x0_1:Int),v0= .int .u64 x0_1/\Aside0 (azz.l0 kq x0_1 a1 t455=some r)/\Aside0 (kq<=k)/\Drawn0 w w')
  case atStart=>exact ⟨(a0),sd_,H',⟨Zv _⟩,dn_⟩
  clear H'
  try clear c1
  try clear p2
  try clear c3
  try clear c3b0
  try clear c3b1
  obtain ⟨x0_1,rfl,HA,HK1,⟨m1,rfl⟩⟩:=hrel;rcases gk with _|k1
  ·exact Yf HA.out (by simp [azz.l0])
  have H:=HA.out;clear HA;simp only [azz.l0] at H;obtain ⟨t456,A5,H⟩:=ob_ H
  (try dsimp only at H)
  by_cases c6:t456>=t455
  rotate_left
  ·rw [Yb c6] at H;have c6b0:decide (t455<=t456)=false:=Ze c6;clear c6;obtain rfl:=Zn H
   go_wp2_with (first|((with_reducible refine abz (f:=194) rfl ?_);refine gl_ (some 12) Tryz.func194 #[.int .u64 x0_1] ?_;(with_reducible refine (awz.calls k1 x0_1 t456 _ A5.out).mono ?_);rintro e w' ⟨rfl,⟨nd,rfl⟩⟩;refine ⟨_,rfl,?_⟩))
   go_ret;exact ⟨sd_,dn_⟩
  rw [Ya c6] at H;have c6b0:decide (t455<=t456)=true:=Zd c6;clear c6;obtain ⟨t457,A7,H⟩:=ob_ H
  (try dsimp only at H)
  obtain ⟨t458,A8,H⟩:=ob_ H
  (try dsimp only at H)
  have H':=Za H;clear H
  go_wp2_with (first|((with_reducible refine abz (f:=194) rfl ?_);refine gl_ (some 12) Tryz.func194 #[.int .u64 x0_1] ?_;(with_reducible refine (awz.calls k1 x0_1 t456 _ A5.out).mono ?_);rintro e w' ⟨rfl,⟨nd,rfl⟩⟩;refine ⟨_,rfl,?_⟩)|((with_reducible refine abz (f:=194) rfl ?_);refine gl_ (some 19) Tryz.func194 #[.int .u64 x0_1] ?_;(with_reducible refine (awz.calls k1 x0_1 t457 _ A7.out).mono ?_);rintro e w' ⟨rfl,⟨nd,rfl⟩⟩;refine ⟨_,rfl,?_⟩)|((with_reducible refine abz (f:=195) rfl ?_);refine gl_ (some 22) Tryz.func195 #[.int .i64 (wrap64 (t457 - t455))] ?_;(with_reducible refine (aDz.calls k1 (wrap64 (t457 - t455)) t458 _ A8.out).mono ?_);rintro e w' ⟨rfl,⟨nd,rfl⟩⟩;refine ⟨_,rfl,?_⟩))
  go_roundg k1
  case measure=>have:=HK1.out;omega
  case rel=>exact ⟨(Go.bits .xor .u64 x0_1 (IntKind.u64.wrap ((IntKind.u64.wrap (a1))*t458))),sd_,H',⟨by have:=HK1.out;omega⟩,dn_⟩
end Go.Proofs.Xc
end
