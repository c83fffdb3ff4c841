-- Joined texts of this work (wip/tools/bundle.py).
import Derived.Lib.SlBytesConst
import Derived.Test.YtpdakdcmahlghaaGreatBCodecParity18
set_option maxHeartbeats 8000000
set_option maxRecDepth 100000
set_option linter.unusedVariables false
set_option linter.unusedSimpArgs false
section
namespace Go.Proofs.Xc
open Go.RowKit Go.Proofs.Pw Go.Proofs.Pl Go.Proofs.Pm
attribute [local go_sem] a9z baz bkz blz a2z a3z bbz bcz
attribute [local go_sem] Oper.semAt_some
def bAz.fill (size:Nat):List Int->Nat->List (List Int)->Option (List (List Int))
 | [],_,rows=>some rows
 |c::cs,i,rows=>if i / size<rows.length then bAz.fill size cs (i+1) (rows.set (i / size) ((rows.getD (i / size) []).set (i % size) c)) else none
def bAz.f (k:Nat) (a0_0 a0_1 a0_2:Int) (l1:List Int):Option (List (List Int)×Int):=
 (a6z.f k a0_0 a0_1 a0_2 (l1.length:Int)).bind fun s=>if s.2=0 then (if 1<=a0_1 then (if a0_1<=1000 then (if 1<=s.1 then (if s.1<=100000 then (if l1.length<=100000 then
  (cpz.f a0_0 a0_1 a0_2).bind fun u=>(if u.2=0\/u.2=4 then (bAz.fill s.1.toNat (laidL u.2.toNat l1) 0 (List.replicate a0_1.toNat (List.replicate s.1.toNat 0))).bind fun r=>some (r,0) else none)
  else none) else none) else none) else none) else none) else some ([],s.2)
theorem bAz.bad (k : Nat) (a0_0 a0_1 a0_2 : Int) (A1 : Option Addr) (c1 : Nat) (l1 : List Int) (s1 s2 : Int) (w : World) (h : a6z.f k a0_0 a0_1 a0_2 (l1.length : Int) = some (s1, s2)) (hs : s2 ≠ 0) :
  Calls Tryz.prog 55 #[.agg #[.int .i64 a0_0, .int .i64 a0_1, .int .i64 a0_2], .slice A1 l1.length c1] w fun e w'=>e= .returned (.tuple #[.slice none 0 0, .int .i64 s2])/\Below w.heap.size w w':=by
 have HZ:=Aside0.mk (fun w=>a6z.calls k a0_0 a0_1 a0_2 (l1.length:Int) s1 s2 w h);have hu:=Tryz.underlying23;have hb:(s2 !=0)=true:=by simpa using hs
 generalize l1.length=n at HZ|-;clear h hs;go_enter Tryz.func55,Tryz.ntmps55
 go_wp2_with fail
 refine (HZ.out _).mono ?_;rintro e w1 ⟨rfl,hB⟩;have HB:=Aside0.mk (show Below w.heap.size w w1 from (anz (Below.refl _ _) _).trans (hB.mono (by simp)));clear hB;go_wp2;go_ret2;exact ⟨rfl,anz HB.out _⟩
theorem bAz.go (k : Nat) (a0_0 a0_2 : Int) (K size ahead n : Nat) (A1 : Option Addr) (c1 : Nat) (l1 : List Int) (u1 : Int) (res : List (List Int)) (w : World) (hr1 : Kd.C (Kd.int .u8) w A1 l1.length l1) (hc1 : n <= c1) (hn : l1.length = n) (hn2 : n <= 100000)
  (h:a6z.f k a0_0 (K:Int) a0_2 (n:Int)=some ((size:Int),0)) (hK:1<=K) (hK2:K<=1000) (hs:1<=size) (hs2:size<=100000) (hru:cpz.f a0_0 (K:Int) a0_2=some (u1,(ahead:Int))) (hah:ahead=0\/ahead=4)
  (hf:bAz.fill size (laidL ahead l1) 0 (List.replicate K (List.replicate size 0))=some res):
  Calls Tryz.prog 55 #[.agg #[.int .i64 a0_0, .int .i64 (K:Int), .int .i64 a0_2], .slice A1 n c1] w fun e w'=> ∃v,e= .returned (.tuple #[v, .int .i64 0])/\Kd.S (dM 5 .u8) 34 w' w.heap.size (fun _=>True) v res/\Below w.heap.size w w':=by
 have HZ:=Aside0.mk (fun w=>a6z.calls k a0_0 (K:Int) a0_2 (n:Int) (size:Int) 0 w h);have HRU:=Aside0.mk (fun w=>cpz.calls a0_0 (K:Int) a0_2 u1 (ahead:Int) w hru);have HR1:=Aside0.mk hr1;have HN:=Aside0.mk hn;have HF:=Aside0.mk hf;have HAH:=Aside0.mk hah;have hu:=Tryz.underlying23;have hbx:=heap_alloc_new w (.cells #[.int .i64 a0_0, .int .i64 (K:Int), .int .i64 a0_2] 23);have HBX:=Aside0.mk hbx;have HB0:=Aside0.mk (anz (Below.refl w.heap.size w) (.cells #[.int .i64 a0_0, .int .i64 (K:Int), .int .i64 a0_2] 23));clear h hru hr1 hn hf hah hbx;refine (callsIn_wide (n:=8)).1 (callsIn_of_wp_marks Tryz.func55 rfl trivial (wpIn_wide.2 ?_) rfl);simp only [Tryz.ntmps55,List.size_toArray,List.length_cons,List.length_nil,Nat.reduceAdd,Nat.reduceSub,Array.replicate_succ,Array.replicate_zero,List.push_toArray,List.append_toArray,List.nil_append,List.cons_append]
 go_wp2_with fail
 generalize w.alloc (.cells #[.int .i64 a0_0, .int .i64 (K:Int), .int .i64 a0_2] 23)=w0 at HBX HB0|-;refine (HZ.out w0).mono ?_;rintro e w1 ⟨rfl,hB1⟩;have HB1:=Aside0.mk (HB0.out.trans (hB1.mono HB0.out.size));have HX1:=Aside0.mk (aMz HBX.out hB1);have hcK:(w1.alloc (.cells #[.int .i64 (size:Int)] 3)).cell? ⟨w.heap.size,1,none⟩=some (.int .i64 (K:Int)):=(acz (aMz HX1.out (anz (Below.refl _ _) _)) 1).trans rfl;have HSB1:=Aside0.mk (heap_alloc_new w1 (.cells #[.int .i64 (size:Int)] 3));have HB2:=Aside0.mk (anz HB1.out (.cells #[.int .i64 (size:Int)] 3));have HX2:=Aside0.mk (aMz HX1.out (anz (Below.refl _ _) (.cells #[.int .i64 (size:Int)] 3)));have HSBW:=Aside0.mk (show w.heap.size<=w1.heap.size from HB1.out.size);have HBASE:=Aside0.mk (show w.heap.size<=(w1.alloc (.cells #[.int .i64 (size:Int)] 3)).heap.size from HB2.out.size);clear hB1 HBX HB0 HZ HB1 HX1
 go_wp2_with ((with_reducible refine a8z (N:=26) rfl ?_);go_must (refine Kd.S_make (dM 5 .u8) (w0:=w) w.heap.size 34 rfl rfl 24 (.tmp 25) (.tmp 25) rfl (K:Int) rfl rfl Tryz.underlying24 (.slice none 0 0) 24 kr_ rfl (by decide) (by decide) ([] :List Int) (ok:=fun _=>True) (okp:=fun _=>True) ⟨_,rfl,Kd.R_nil _ _ _ _ _⟩ (fun _ h=>h) trivial (by omega) (by omega) HB2.out HBASE.out ?_);intro v2 w2 ho hb hg hat;rw [Int.toNat_natCast] at ho;obtain ⟨o,cap,rfl, -, -, -⟩:=Kd.S_form ho (by rw [List.length_replicate];exact hK);have HO2:=Aside0.mk ho;have HB3:=Aside0.mk hb;have HG2:=Aside0.mk hg;clear ho hb hg hat)
 rw [List.length_replicate] at HO2;obtain ⟨sb,hsb⟩: ∃sb,w1.heap.size=sb:=⟨_,rfl⟩;obtain ⟨lbx,hlbx⟩: ∃lbx,w2.heap.size=lbx:=⟨_,rfl⟩
 have hz2:sb<lbx:=by
  have h1:=HG2.out.size;simp at h1;omega
 have hwl:w.heap.size<sb:=by
  have h1:=a5z HX2.out;have h2:=HSBW.out
  have h3:w.heap.size≠w1.heap.size:=fun e=>by
   have h4:=HSB1.out;rw [<-e] at h4;rw [HX2.out] at h4;injection h4 with h4
   injection h4 with h5 h6
   exact absurd h6 (by decide)
  omega
 have HX3:=Aside0.mk (show (w2.alloc (.cells #[.slice (some ⟨o,0,none⟩) K cap] 24)).heap[w.heap.size]?=some (.cells #[.int .i64 a0_0, .int .i64 (K:Int), .int .i64 a0_2] 23 (0,0)) from aMz ((HG2.out.block _ (a5z HX2.out) (by simp)).trans HX2.out) (anz (Below.refl _ _) _));have HSB3:=Aside0.mk (show (w2.alloc (.cells #[.slice (some ⟨o,0,none⟩) K cap] 24)).heap[sb]?=some (.cells #[.int .i64 (size:Int)] 3 (0,0)) by rw [<-hsb];exact aMz ((HG2.out.block _ (a5z HSB1.out) (by simp)).trans HSB1.out) (anz (Below.refl _ _) _));have HLB3:=Aside0.mk (show (w2.alloc (.cells #[.slice (some ⟨o,0,none⟩) K cap] 24)).heap[lbx]?=some (.cells #[.slice (some ⟨o,0,none⟩) K cap] 24 (0,0)) by rw [<-hlbx];exact heap_alloc_new _ _);have HO3:=Aside0.mk (show Kd.S (dM 5 .u8) 34 (w2.alloc (.cells #[.slice (some ⟨o,0,none⟩) K cap] 24)) w.heap.size (fun _=>True) (.slice (some ⟨o,0,none⟩) K cap) (madeTo K size 0) by rw [madeTo_zero];exact Kd.d7z HO2.out _)
 have HB4:=Aside0.mk (anz HB3.out (.cells #[.slice (some ⟨o,0,none⟩) K cap] 24));rw [hsb,hlbx];have HZ2:=Aside0.mk hz2;have HWL:=Aside0.mk hwl;clear hsb hlbx HO2 HB3 HG2 HX2 HSB1 HB2 hcK HSBW HBASE hz2 hwl;generalize w2.alloc (.cells #[.slice (some ⟨o,0,none⟩) K cap] 24)=w3 at HX3 HSB3 HLB3 HO3 HB4|-;have hmk:=make_bytes size (by omega)
 go_loopw [29] (fun iv wr=> ∃i:Nat,i<=K/\iv= .int .i64 (i:Int)/\Aside0 (Kd.S (dM 5 .u8) 34 wr w.heap.size (fun _=>True) (.slice (some ⟨o,0,none⟩) K cap) (madeTo K size i))/\Aside0 (Below w.heap.size w wr)/\Aside0 (wr.heap[w.heap.size]?=some (.cells #[.int .i64 a0_0, .int .i64 (K:Int), .int .i64 a0_2] 23 (0,0)))/\Aside0 (wr.heap[sb]?=some (.cells #[.int .i64 (size:Int)] 3 (0,0)))/\Aside0 (wr.heap[lbx]?=some (.cells #[.slice (some ⟨o,0,none⟩) K cap] 24 (0,0)))) (fun iv _=>K - (intOf iv).toNat)
 case atStart=>exact ⟨0,Nat.zero_le _,rfl,HO3,HB4,HX3,HSB3,HLB3⟩
 clear HO3 HB4 HX3 HSB3 HLB3;obtain ⟨wq,rfl⟩: ∃w',w'=wr:=⟨_,rfl⟩;obtain ⟨i,hi,rfl,HO,HB,HX,HSB,HLB⟩:=hrel;by_cases hlt:i<K
 ·have e1:wq.cell? ⟨lbx,0,none⟩=some (.slice (some ⟨o,0,none⟩) K cap):=(acz HLB.out 0).trans rfl;have e2:wq.cell? ⟨sb,0,none⟩=some (.int .i64 (size:Int)):=(acz HSB.out 0).trans rfl;have HO5:=Aside0.mk (S_new HO.out HB.out.size (fun _ _=>trivial) i hlt (List.replicate size 0) (by simp;omega));rw [List.length_replicate,madeTo_step K size i hlt] at HO5;obtain ⟨v0,hcv,hfv⟩:=S_cell (Kd.d7z HO.out (.cells (nums .u8 (List.replicate size 0)).toArray 5)) i hlt
  have hol:o≠lbx/\o≠sb/\o≠w.heap.size:=by
   obtain ⟨cs,hcs⟩:=Kd.bGz HO.out o (by simp [Value.ownBlock]);refine ⟨?_,?_,?_⟩
   ·rintro rfl;rw [HLB.out] at hcs;injection hcs with hcs
    injection hcs with _ hcs
    exact absurd hcs (by decide)
   ·rintro rfl;rw [HSB.out] at hcs;injection hcs with hcs
    injection hcs with _ hcs
    exact absurd hcs (by decide)
   ·rintro rfl;rw [HX.out] at hcs;injection hcs with hcs
    injection hcs with _ hcs
    exact absurd hcs (by decide)
  have hbo:w.heap.size<=o:=Kd.dfz HO.out o (by simp [Value.ownBlock]);have HB5:=Aside0.mk (cjz (anz HB.out (.cells (nums .u8 (List.replicate size 0)).toArray 5)) hbo i (.slice (some ⟨wq.heap.size,0,none⟩) size size));have HX5:=Aside0.mk (byz (aMz HX.out (anz (Below.refl _ _) (.cells (nums .u8 (List.replicate size 0)).toArray 5))) (p:=⟨o,i,none⟩) (Ne.symm hol.2.2) (.slice (some ⟨wq.heap.size,0,none⟩) size size));have HSB5:=Aside0.mk (byz (aMz HSB.out (anz (Below.refl _ _) (.cells (nums .u8 (List.replicate size 0)).toArray 5))) (p:=⟨o,i,none⟩) (Ne.symm hol.2.1) (.slice (some ⟨wq.heap.size,0,none⟩) size size));have HLB5:=Aside0.mk (byz (aMz HLB.out (anz (Below.refl _ _) (.cells (nums .u8 (List.replicate size 0)).toArray 5))) (p:=⟨o,i,none⟩) (Ne.symm hol.1) (.slice (some ⟨wq.heap.size,0,none⟩) size size));have i1:(0:Int)<=(i:Int):=by omega
  have i2:(i:Int)<(K:Int):=by omega
  clear hol hbo
  go_wp2_with fail
  refine regOnly_ ?_;refine bPz (n:=6) (S:=fun w'=>w'.cell? ⟨lbx,0,none⟩=some (.slice (some ⟨o,0,none⟩) K cap)/\w'.cell? ⟨sb,0,none⟩=some (.int .i64 (size:Int))) (ds:= [5]) (bA 6 0) kr_ rfl rfl ⟨e1,e2⟩ (fun hHeld=> ?_);refine pu_ 1 33 2 ?_;refine tk_ 0 32 3 hHeld ?_;refine tk_ 2 34 7 hHeld ?_;refine one_ (i:=3) (N:=some 35) (bA 6 15) rfl rfl kr_ (by decide) (fun K hK=> ?_);refine ccz (w1:= ?_) (v:= ?_) (by rfl) rfl ?_ ?_;rotate_left 2
  ·go_simp;constructor
   ·rfl
   ·rfl
  refine hK.out _ _ ⟨(World.cell?_alloc_past _ _ _ (World.block_lt_of_cell? _ _ e1)).trans e1,(World.cell?_alloc_past _ _ _ (World.block_lt_of_cell? _ _ e2)).trans e2⟩ (fun hHeld=> ?_);clear hK K;refine norm_ (a':= ?_) ?_ ?_;rotate_left
  ·show Act.put _ (some 35) _=_;simp only [Act.put,List.setIfInBounds_toArray,List.set_cons_zero,List.set_cons_succ,i64_w,i32_w];rfl
  refine pu_ 4 36 31 ?_;refine last_ (i:=5) (N:=none) (bA 6 63) rfl rfl kr_ (by decide) (fun K hK=> ?_);refine skip_ (w1:= ?_) (by rfl) rfl ?_ ?_;rotate_left
  ·go_simp;rfl
  refine hK.out _ _ ?_;clear hK K;refine done_ kr_ ?_;refine regOnly_normal ?_;go_wp2;exact ⟨⟨i+1,by omega,by simp [i64_w],Aside0.mk HO5.out,Aside0.mk HB5.out.drew,Aside0.mk HX5.out,Aside0.mk HSB5.out,Aside0.mk HLB5.out⟩,by simp [intOf];omega⟩
 ·obtain rfl:i=K:=by omega
  have hfull:=HO.out;rw [madeTo_full] at hfull;have HO4:=Aside0.mk hfull;have q0:wq.cell? ⟨w.heap.size,0,none⟩=some (.int .i64 a0_0):=(acz HX.out 0).trans rfl;have q1:wq.cell? ⟨w.heap.size,1,none⟩=some (.int .i64 (i:Int)):=(acz HX.out 1).trans rfl;have q2:wq.cell? ⟨w.heap.size,2,none⟩=some (.int .i64 a0_2):=(acz HX.out 2).trans rfl;have hself:((i:Int)<(i:Int))=False:=by simp
  clear hi hlt hmk hfull HO
  go_wp2_with fail
  refine (HRU.out wq).mono ?_;rintro e w4 ⟨rfl,hB4⟩;have HB5:=Aside0.mk (HB.out.trans (hB4.mono HB.out.size));have HO5:=Aside0.mk (Kd.cYz HO4.out hB4);have HX5:=Aside0.mk (aMz HX.out hB4);have HSB5:=Aside0.mk (aMz HSB.out hB4);have HLB5:=Aside0.mk (aMz HLB.out hB4);clear hB4 q0 q1 q2 HB HO4 HX HSB HLB HRU;have hld:=laid.calls (ahead:Int) A1 n c1
  go_wp2_with ((go_at_call 90;refine (hld _).mono ?_;rintro e w' ⟨rfl,rfl⟩))
  clear hld;have hX10:((w4.alloc (.cells #[.int .i64 (ahead:Int)] 3)).alloc (.cells #[.slice A1 n c1] 34)).heap[w4.heap.size]?=some (.cells #[.int .i64 (ahead:Int)] 3 (0,0)):=bzz (dtz w4 _) _;have hX11:((w4.alloc (.cells #[.int .i64 (ahead:Int)] 3)).alloc (.cells #[.slice A1 n c1] 34)).heap[w4.heap.size+1]?=some (.cells #[.slice A1 n c1] 34 (0,0)):=coz _ _ _ (by simp);have hB6:Below w4.heap.size w4 ((w4.alloc (.cells #[.int .i64 (ahead:Int)] 3)).alloc (.cells #[.slice A1 n c1] 34)):=dAz (anz (Below.refl _ _) _) (anz (Below.refl _ _) _);have hsz:((w4.alloc (.cells #[.int .i64 (ahead:Int)] 3)).alloc (.cells #[.slice A1 n c1] 34)).heap.size=w4.heap.size+2:=by simp
  generalize (w4.alloc (.cells #[.int .i64 (ahead:Int)] 3)).alloc (.cells #[.slice A1 n c1] 34)=w5 at hX10 hX11 hB6 hsz|-;obtain ⟨b,hb⟩: ∃b,b=w4.heap.size:=⟨_,rfl⟩;rw [<-hb] at hX10 hX11 hsz hB6|-;have hwb:w.heap.size<=b:=hb▸HB5.out.size;have hB6':Below w.heap.size w w5:=HB5.out.trans (hB6.mono hwb);have hR5:Kd.C (Kd.int .u8) w5 A1 l1.length l1:=Kd.aLz HR1.out hB6';have hlt1:lbx<b:=hb▸a5z HLB5.out
  have hS6:Kd.S (dM 5 .u8) 34 w5 w.heap.size (fun k=>w.heap.size<=k/\k<b/\k≠sb/\k≠lbx) (.slice (some ⟨o,0,none⟩) i cap) (List.replicate i (List.replicate size 0)):=by
   have h1:=Kd.bLz (Kd.dLz (Kd.dLz HO5.out HSB5.out (by decide)) HLB5.out (by decide));have h2:=Kd.cYz h1 (hb▸hB6:Below w4.heap.size w4 w5);refine Kd.cBz h2 (fun q hq=> ?_);simp only [<-hb] at hq;exact ⟨hq.2.1,hq.2.2.1,hq.1.1.2,hq.1.2⟩
  have HSB6:=Aside0.mk (aMz HSB5.out (hb▸hB6));have HLB6:=Aside0.mk (aMz HLB5.out (hb▸hB6));have HX10:=Aside0.mk hX10;have HX11:=Aside0.mk hX11;have HB6:=Aside0.mk hB6';have HR5:=Aside0.mk hR5;have HS6:=Aside0.mk hS6;have HSZ:=Aside0.mk hsz;have HWB:=Aside0.mk hwb;have HLT:=Aside0.mk hlt1;clear hX10 hX11 hB6 hB6' hR5 hS6 hsz hwb hlt1 HB5 HO5 HX5 HSB5 HLB5 hb;refine (wpIn_wide (n:=8)).1 ?_
  refine wpIn_range_nth (α:=Nat×Int) rfl (by omega) (gf:=134) (lb:= #[.pointer (some ⟨b+1,0,none⟩), .pointer (some ⟨b,0,none⟩)]) rfl trivial (enters_of Tryz.func134 kr_ rfl)
   (laid_seq ahead b (b+1) n c1 HAH.out (fun k=>w.heap.size<=k/\k<b/\k≠sb/\k≠lbx) A1 l1 w5 HR5.out HN.out hc1 hn2 HX10.out HX11.out (fun k hk=>by have:=HSZ.out;have:=hk.2.1;omega)) KpC.trans ?hKb (Below.refl _ _) (fun _=>rfl)
   (fun pre Wx=> ∃rows,Kd.S (dM 5 .u8) 34 Wx w.heap.size (fun k=>w.heap.size<=k/\k<b/\k≠sb/\k≠lbx) (.slice (some ⟨o,0,none⟩) i cap) rows/\Wx.heap[sb]?=some (.cells #[.int .i64 (size:Int)] 3 (0,0))/\Wx.heap[lbx]?=some (.cells #[.slice (some ⟨o,0,none⟩) i cap] 24 (0,0))/\rows.length=i/\(∀r,r∈rows->r.length=size)/\bAz.fill size ((laidL ahead l1).drop pre.length) pre.length rows=some res/\Below w.heap.size w Wx/\w5.heap.size<=Wx.heap.size)
   ?hI ?hHd ?h0 (fun x=> { tmps:= #[.agg #[.int .i64 a0_0, .int .i64 (i:Int), .int .i64 a0_2], .slice A1 n c1, .pointer (some ⟨w.heap.size,0,none⟩),undef, .slice none 0 0, .int .i64 0, .pointer (some ⟨sb,0,none⟩), .int .i64 0, .pointer (some ⟨lbx,0,none⟩),u9, .int .i64 u1, .int .i64 (ahead:Int), .int .i64 (x.1:Int), .int .u8 x.2, .tuple #[.int .i64 (size:Int), .int .i64 0], .agg #[.int .i64 a0_0, .int .i64 (i:Int), .int .i64 a0_2], .slice A1 n c1, .int .i64 (n:Int), .tuple #[.int .i64 (size:Int), .int .i64 0], .int .i64 (size:Int), .int .i64 0, .int .i64 0, .bool false,undef, .pointer (some ⟨w.heap.size,1,none⟩), .int .i64 (i:Int), .slice (some ⟨o,0,none⟩) i cap, .slice (some ⟨o,0,none⟩) i cap, .int .i64 (i:Int), .int .i64 (i:Int), .bool false,u31,u32,u33,u34,u35,u36,u37, .tuple #[.int .i64 u1, .int .i64 (ahead:Int)], .agg #[.int .i64 a0_0, .int .i64 (i:Int), .int .i64 a0_2], .tuple #[.int .i64 u1, .int .i64 (ahead:Int)], .int .i64 u1, .int .i64 (ahead:Int), .int .i64 (ahead:Int), .slice A1 n c1, .func (.func 134) #[] #[.pointer (some ⟨b+1,0,none⟩), .pointer (some ⟨b,0,none⟩)], .int .i64 (x.1:Int), .int .u8 x.2,undef,undef,undef,undef,undef,undef,undef,undef,undef,undef,undef,undef],defers:= [] }) ?assign ?body ?done
  case hKb=>
   intro Wx l o1 o2 hl ho hno;refine ⟨(grownBy_putObj' Wx l o2).size,fun k oo hk hcc _=> ?_⟩;have hne:k≠l:=by rintro rfl;rw [hk] at ho;cases ho;rw [hcc] at hno;cases hno
   exact (World.putObj_heap_other hne).trans hk
  case hI=>
   rintro s X Y r ⟨rows,h1,h2,h3,h4,h5,h6,h7,h8⟩ hg hr;have hr': ∀q,r=some q-> ∃o:Obj,X.heap[q]?=some o/\o.isCells=false:=fun q e=>(hr q e).2
   have hcc: ∀(q:Nat) (oo:Obj),X.heap[q]?=some oo->oo.isCells=true->Y.heap[q]?=X.heap[q]?:=fun q oo hq ho=>grownBy_keeps_cells hg hr' hq ho
   exact ⟨rows,S_keepK h1 hcc,(hcc _ _ h2 rfl).trans h2,(hcc _ _ h3 rfl).trans h3,h4,h5,h6,⟨hg.os.trans h7.os,hg.tape.trans h7.tape,hg.output.trans h7.output,Nat.le_trans h7.size hg.size,fun q hq=>(hg.block q (Nat.lt_of_lt_of_le hq h7.size) (fun e=>by have:=(hr q e.symm).1;have:=HSZ.out;have:=HWB.out;omega)).trans (h7.block q hq)⟩,Nat.le_trans h8 hg.size⟩
  case hHd=>
   intro m x s X Y r h hg hr;exact h
  case h0=>
   refine ⟨_,HS6.out,HSB6.out,HLB6.out,by simp,fun r hr=>by rw [List.eq_of_mem_replicate hr];simp,?_,HB6.out,Nat.le_refl _⟩
   simpa using HF.out
  case assign=>
   intro l x Wx K hK
   gi_wp2
   exact hK
  case body=>
   rintro l pre ⟨x,c⟩ Wx ⟨rows,h1,h2,h3,h4,h5,h6,h7,h8⟩ ⟨hx0,hx1⟩ hlen;dsimp only at hx0 hx1
   have hdr:(laidL ahead l1).drop pre.length=c::(laidL ahead l1).drop (pre.length+1):=by
    obtain ⟨hl,he⟩:=List.getElem?_eq_some_iff.1 hx1;rw [List.drop_eq_getElem_cons hl,he]
   rw [hdr, <-hx0] at h6;simp only [bAz.fill] at h6
   have hq:x / size<rows.length:=by
    by_cases hh:x / size<rows.length
    ·exact hh
    ·rw [if_neg hh] at h6;cases h6
   rw [if_pos hq] at h6;obtain ⟨row,hrow⟩: ∃r,rows[x / size]?=some r:=⟨_,List.getElem?_eq_getElem hq⟩;have hrl:row.length=size:=h5 row (List.mem_of_getElem? hrow);have hrd:rows.getD (x / size) [] =row:=by rw [List.getD_eq_getElem?_getD,hrow];rfl
   rw [hrd] at h6;have hj:x % size<size:=Nat.mod_lt _ hs;obtain ⟨g,cg,y,k1,k2,k3,kok,kne,kS⟩:=S_put2 h1 (x / size) (x % size) row hrow (by rw [hrl];exact hj) c;have e1:Wx.cell? ⟨lbx,0,none⟩=some (.slice (some ⟨o,0,none⟩) i cap):=(acz h3 0).trans rfl;have e2:Wx.cell? ⟨sb,0,none⟩=some (.int .i64 (size:Int)):=(acz h2 0).trans rfl;rw [hrl] at k1;rw [h4] at hq
   have hx100:x<=100004:=by
    have hl:(laidL ahead l1).length<=100004:=by
     have:=HN.out;unfold laidL four4;simp;omega
    omega
   have d1:Int.tdiv (x:Int) (size:Int)=((x / size:Nat):Int):=by rw [Int.ofNat_tdiv]
   have d2:Int.tmod (x:Int) (size:Int)=((x % size:Nat):Int):=by rw [Int.ofNat_tmod]
   obtain ⟨qx,hqx⟩: ∃qx,x / size=qx:=⟨_,rfl⟩;obtain ⟨rx,hrx⟩: ∃rx,x % size=rx:=⟨_,rfl⟩;have hqle:qx<=x:=hqx▸Nat.div_le_self _ _;rw [hqx] at d1 hq k1 kS h6 hrow;rw [hrx] at d2 hj k2 k3 kS h6;have i1:(0:Int)<=(qx:Int):=by omega
   have i2:(qx:Int)<(i:Int):=by omega
   have i3:(0:Int)<=(rx:Int):=by omega
   have i4:(rx:Int)<(size:Int):=by omega
   have i5: ¬(size=0):=by omega
   have i6:IntKind.i64.wrap (qx:Int)=(qx:Int):=by rw [IntKind.wrap_i64];omega
   have HEND:=Aside0.mk (show KeepsFrom w5.heap.size Wx (Wx.setCell ⟨g,rx,none⟩ (.int .u8 c))/\KpC (fun k=>w.heap.size<=k/\k<b/\k≠sb/\k≠lbx) Wx (Wx.setCell ⟨g,rx,none⟩ (.int .u8 c))/\ ∃rows,Kd.S (dM 5 .u8) 34 (Wx.setCell ⟨g,rx,none⟩ (.int .u8 c)) w.heap.size (fun k=>w.heap.size<=k/\k<b/\k≠sb/\k≠lbx) (.slice (some ⟨o,0,none⟩) i cap) rows/\(Wx.setCell ⟨g,rx,none⟩ (.int .u8 c)).heap[sb]?=some (.cells #[.int .i64 (size:Int)] 3 (0,0))/\(Wx.setCell ⟨g,rx,none⟩ (.int .u8 c)).heap[lbx]?=some (.cells #[.slice (some ⟨o,0,none⟩) i cap] 24 (0,0))/\rows.length=i/\(∀r,r∈rows->r.length=size)/\bAz.fill size ((laidL ahead l1).drop (pre++ [(x,c)]).length) (pre++ [(x,c)]).length rows=some res/\Below w.heap.size w (Wx.setCell ⟨g,rx,none⟩ (.int .u8 c))/\w5.heap.size<=(Wx.setCell ⟨g,rx,none⟩ (.int .u8 c)).heap.size by
    have hsc: ∀k,k≠g->(Wx.setCell ⟨g,rx,none⟩ (.int .u8 c)).heap[k]?=Wx.heap[k]?:=fun k hk=>Below.heap_setCell Wx ⟨g,rx,none⟩ _ k hk
    refine ⟨⟨by simp,fun k oo hk hko hno=> ?_⟩,⟨by simp,fun k oo hk hcc he=>(hsc k (by rintro rfl;exact he kok)).trans hk⟩,_,kS,(hsc _ (by rintro rfl;exact kok.2.2.1 rfl)).trans h2,(hsc _ (by rintro rfl;exact kok.2.2.2 rfl)).trans h3,by rw [List.length_set];exact h4,?_,?_,cjz h7 kok.1 rx _,by simpa using h8⟩
    ·exact (hsc k (by rintro rfl;have:=kok.2.1;have:=HSZ.out;omega)).trans hko
    ·intro r hr;rcases List.mem_or_eq_of_mem_set hr with hr|rfl
     ·exact h5 r hr
     ·rw [List.length_set];exact hrl
    ·rw [List.length_append,List.length_singleton, <-hx0]
     exact h6)
   have hmo:Tryz.prog.follows .mixedOrders=true:=by kernel_rfl
   clear h1 h2 h3 h4 h5 h6 h7 h8 hx0 hx1 hlen hdr hrow hrl hrd kok kne kS hqx hrx
   gi_wp2
   refine startIn_ (m:=12) (S:=fun w'=>w'.cell? ⟨lbx,0,none⟩=some (.slice (some ⟨o,0,none⟩) i cap)/\w'.cell? ⟨sb,0,none⟩=some (.int .i64 (size:Int))/\w'.cell? ⟨o,qx,none⟩=some (.slice (some ⟨g,0,none⟩) size cg)) (ds:= [11]) (bA 12 0) kr_ rfl rfl kr_ (by rintro ⟨_,_,h⟩;exact h) ⟨e1,e2,k1⟩ (fun hHeld=> ?_);refine pu_ 1 49 2 ?_;refine pu_ 6 54 66 ?_;refine pu_ 9 57 578 ?_;refine tk_ 0 48 579 hHeld ?_;refine tk_ 2 50 583 hHeld ?_;refine pu_ 3 51 591 ?_;refine pu_ 4 52 607 ?_;refine tk_ 5 53 639 hHeld ?_;refine tk_ 7 55 767 hHeld ?_;refine pu_ 8 56 1023 ?_;refine pu_ 10 58 2047 ?_;refine last_ (i:=11) (N:=none) (bA 12 4095) rfl rfl kr_ (by decide) (fun K hK=> ?_);refine skip_ (w1:= ?_) (by rfl) rfl ?_ ?_;rotate_left
   ·go_simp;rfl
   refine hK.out _ _ ?_;clear hK K;refine done_ kr_ ?_;obtain ⟨q1,q2,rows,p1,p2,p3,p4,p5,p6,p7,p8⟩:=HEND.out;refine And.intro ⟨q1.1,q1.2⟩ (And.intro ⟨q2.1,q2.2⟩ ⟨rows,Kd.S_drew p1,p2,p3,p4,p5,p6,p7.drew,p8⟩)
  case done=>
   rintro D xs Wx hD ⟨hxs,hlen⟩ ⟨rows,h1,h2,h3,h4,h5,h6,h7,h8⟩ hDd;rw [hlen,List.drop_length] at h6;obtain rfl:rows=res:=by simpa [bAz.fill] using h6
   have e1:Wx.cell? ⟨lbx,0,none⟩=some (.slice (some ⟨o,0,none⟩) i cap):=(acz h3 0).trans rfl;have H1:=Aside0.mk h1;have H7:=Aside0.mk h7;have H8:=Aside0.mk h8;have HDD:=Aside0.mk hDd;have HDN:=Aside0.mk hD;clear h1 h2 h3 h4 h5 h6 h7 h8 hDd hD hxs hlen;simp only [Exit.inBlock,Exit.then];go_wp2;refine eiz [D] Wx (by simp) (fun D' hD'=>by rw [List.mem_singleton] at hD';rw [hD'];exact HDD.out) (fun w' hkp hsz hos htp hou=> ?_)
   have hcc: ∀(q:Nat) (oo:Obj),Wx.heap[q]?=some oo->oo.isCells=true->w'.heap[q]?=Wx.heap[q]?:=fun q oo hq ho=>hkp q (a5z hq) (fun hm=>by
    rw [List.mem_singleton] at hm;subst hm
    rw [HDD.out] at hq;cases hq;cases ho)
   refine ⟨_,results_tmp2 rfl _ _ _,_,rfl,S_keepK (Kd.cBz H1.out (fun _ _=>trivial)) hcc,hos.trans H7.out.os,htp.trans H7.out.tape,hou.trans H7.out.output,by rw [hsz];exact H7.out.size,fun q hq=>(hkp q (Nat.lt_of_lt_of_le hq H7.out.size) (fun hm=>by
    rw [List.mem_singleton] at hm
    have:=HDN.out;have:=HSZ.out;have:=HWB.out;omega)).trans (H7.out.block q hq)⟩
theorem bAz.calls (k:Nat) (a0_0:Int) (a0_1:Int) (a0_2:Int) (A1:Option Addr) (c1:Nat) (l1:List Int) (r1:List (List Int)) (r2:Int) (w:World) (hr1:Kd.C (Kd.int .u8) w A1 l1.length l1) (hc1:l1.length<=c1) (h:bAz.f k a0_0 a0_1 a0_2 l1=some (r1,r2)):
 Calls Tryz.prog 55 #[.agg #[.int .i64 a0_0, .int .i64 a0_1, .int .i64 a0_2], .slice A1 l1.length c1] w fun e w'=> ∃v0_:Value,e= .returned (.tuple #[v0_, .int .i64 r2])/\Kd.S (Kd.slice 5 (Kd.int .u8)) 34 w' w.heap.size (fun _=>True) v0_ r1/\Below w.heap.size w w':=by
 unfold bAz.f at h;obtain ⟨⟨s1,s2⟩,hz,h⟩:=Option.bind_eq_some_iff.1 h;by_cases hs:s2=0
 ·subst hs;dsimp only at h;rw [if_pos rfl] at h
  have cut: ∀ {p:Prop} [Decidable p] {a:Option (List (List Int)×Int)},(if p then a else none)=some (r1,r2)->p/\a=some (r1,r2):=by
   intro p _ a hh;by_cases hp:p
   ·rw [if_pos hp] at hh;exact ⟨hp,hh⟩
   ·rw [if_neg hp] at hh;cases hh
  obtain ⟨q1,h⟩:=cut h;obtain ⟨q2,h⟩:=cut h;obtain ⟨q3,h⟩:=cut h;obtain ⟨q4,h⟩:=cut h;obtain ⟨q5,h⟩:=cut h;obtain ⟨⟨u1,u2⟩,hu,h⟩:=Option.bind_eq_some_iff.1 h;obtain ⟨q6,h⟩:=cut h;obtain ⟨r,hf,h⟩:=Option.bind_eq_some_iff.1 h;simp only [Option.some.injEq,Prod.mk.injEq] at h;obtain ⟨rfl,rfl⟩:=h;obtain ⟨K,rfl⟩: ∃K:Nat,a0_1=(K:Int):=⟨a0_1.toNat,by omega⟩;obtain ⟨size,rfl⟩: ∃s:Nat,s1=(s:Int):=⟨s1.toNat,by omega⟩;dsimp only at q6 hf q3 q4;obtain ⟨ahead,rfl⟩: ∃s:Nat,u2=(s:Int):=⟨u2.toNat,by omega⟩;simp only [Int.toNat_natCast] at hf;exact bAz.go k a0_0 a0_2 K size ahead l1.length A1 c1 l1 u1 r w hr1 hc1 rfl q5 hz (by omega) (by omega) (by omega) (by omega) hu (by omega) hf
 ·dsimp only at h;rw [if_neg hs] at h;simp only [Option.some.injEq,Prod.mk.injEq] at h;obtain ⟨rfl,rfl⟩:=h;refine (bAz.bad k a0_0 a0_1 a0_2 A1 c1 l1 s1 s2 w hz hs).mono ?_;rintro e w' ⟨rfl,hB⟩;exact ⟨_,rfl,Kd.S_nil _ _ _ _ _,hB⟩
end Go.Proofs.Xc
end
section
namespace Go.Proofs.Xc
open Go.RowKit Go.Proofs.Pw Go.Proofs.Pl Go.Proofs.Pm
attribute [local go_sem] a9z baz bkz blz a2z a3z bbz bcz
def cSz.f (k:Nat) (a0_0:Int) (a0_1:Int) (a0_2:Int) (l1:List Int):Option ((List (List Int))×Int):=(bAz.f k a0_0 a0_1 a0_2 l1).bind fun bt116=>(if bt116.2=0 then ((aCz.f k a0_0 a0_1 a0_2 bt116.1).bind fun bt120=>(if bt116.1.length+bt120.1.length<5864062014805 then (some ((bt116.1++bt120.1),bt120.2)) else (none))) else (some (([] :List (List Int)),bt116.2)))
theorem cSz.calls (k : Nat) (a0_0 : Int) (a0_1 : Int) (a0_2 : Int) (A1 : Option Addr) (c1 : Nat) (l1 : List Int) (r1 : List (List Int)) (r2 : Int) (w : World) (hr1 : Kd.C (Kd.int .u8) w A1 l1.length l1) (hc1 : l1.length <= c1) (h : cSz.f k a0_0 a0_1 a0_2 l1 = some (r1, r2)) :
  Calls Tryz.prog 24 #[.agg #[.int .i64 a0_0, .int .i64 a0_1, .int .i64 a0_2], .slice A1 l1.length c1] w fun e w'=> ∃v0_:Value,e= .returned (.tuple #[v0_, .int .i64 r2])/\Kd.N (Kd.slice 5 (Kd.int .u8)) 34 w' w.heap.size (fun k_=>(w.heap.size<=k_)) v0_ r1/\Below w.heap.size w w':=by
 have hu23:=Tryz.underlying23;have HR1:=Aside0.mk hr1;have HC1:=Aside0.mk hc1;clear hr1 hc1;have HB:=Aside0.mk (Below.refl w.heap.size w);have H:=h;clear h;unfold cSz.f at H;obtain ⟨⟨t116,t119⟩,A3,H⟩:=ob_ H
 (try dsimp only at H)
 by_cases c4:t119=0
 rotate_left
 ·rw [if_neg c4] at H;have c4b0:(t119==0)=false:=beq_eq_false_iff_ne.mpr c4;have c4b1:(t119 !=0)=true:=bne_iff_ne.mpr c4;simp only [Option.some.injEq,Prod.mk.injEq] at H;obtain ⟨rfl,rfl⟩:=H;go_enter Tryz.func24,Tryz.ntmps24
  go_wp2_with (first|((with_reducible refine a8z (N:=2) rfl ?_);refine bx_ 2 #[.int .i64 a0_0, .int .i64 a0_1, .int .i64 a0_2] 23 ?_;intro gb115 hg w15 hbox hb;have n_:=And.intro (hs_ HB hb) (And.intro (Aside0.mk (hbox)) (And.intro (ag_ HB gb115) (ag_ HB gb115)));clear HB;obtain ⟨HB,BK115,GW115,GE115⟩:=n_;clear hb hbox hg;obtain ⟨hcz16_0,hfz16_0,hcz16_1,hfz16_1,hcz16_2,hfz16_2⟩:=bc3_ BK115.out)|((with_reducible refine abz (f:=55) rfl ?_);refine gl_ (some 12) Tryz.func55 #[.agg #[.int .i64 a0_0, .int .i64 a0_1, .int .i64 a0_2], .slice A1 l1.length c1] ?_;(with_reducible refine (bAz.calls k a0_0 a0_1 a0_2 _ _ l1 t116 t119 _ (xd_ (Kd.aLz HR1.out HB.out)) (HC1.out) A3.out).mono ?_);rintro e w17 ⟨v117,rfl,ho0,hb⟩;refine ⟨_,rfl,?_⟩;have n_:=And.intro (Aside0.mk (Kd.caz (Kd.b4z (ok':=fun k_=>(w.heap.size<=k_)/\k_≠gb115) (Kd.S_N (Kd.bLz ho0)) (fun k_ hk_=>⟨(Nat.le_trans (aez bl_) hk_.2.1),(Kd.freshB (g:=gb115) (o:= .cells #[.int .i64 a0_0, .int .i64 a0_1, .int .i64 a0_2] 23 (0,0)) bk_ k_ hk_.2.1)⟩)) (aez bl_))) (And.intro (bb_ BK115 hb) (hs_ HB hb));clear BK115 HB;obtain ⟨HO118,BK115,HB⟩:=n_;clear hb ho0))
  go_ret2;exact ⟨_,er_,nl_,bl_⟩
 rw [if_pos c4] at H;have c4b0:(t119==0)=true:=beq_iff_eq.mpr c4;have c4b1:(t119 !=0)=false:=bne_eq_false_iff_eq.mpr c4;clear c4;obtain ⟨⟨t120,t123⟩,A5,H⟩:=ob_ H
 (try dsimp only at H)
 by_cases c6:t116.length+t120.length<5864062014805
 rotate_left
 ·rw [if_neg c6] at H;exact absurd H (by simp)
 rw [if_pos c6] at H;have LMc6:=Aside0.mk c6;clear c6;obtain ⟨y124,hy124⟩: ∃y_:List (List Int),y_=(t116++t120):=⟨_,rfl⟩
 first|rw [Option.bind_some, <-hy124] at H|rw [<-hy124] at H
 (try dsimp only at H)
 have Ny124:=Aside0.mk hy124;clear hy124;simp only [Option.some.injEq,Prod.mk.injEq] at H;obtain ⟨rfl,rfl⟩:=H;go_enter Tryz.func24,Tryz.ntmps24
 go_wp2_with (first|((with_reducible refine a8z (N:=2) rfl ?_);refine bx_ 2 #[.int .i64 a0_0, .int .i64 a0_1, .int .i64 a0_2] 23 ?_;intro gb115 hg w7 hbox hb;have n_:=And.intro (hs_ HB hb) (And.intro (Aside0.mk (hbox)) (And.intro (ag_ HB gb115) (ag_ HB gb115)));clear HB;obtain ⟨HB,BK115,GW115,GE115⟩:=n_;clear hb hbox hg;obtain ⟨hcz8_0,hfz8_0,hcz8_1,hfz8_1,hcz8_2,hfz8_2⟩:=bc3_ BK115.out)|((with_reducible refine abz (f:=55) rfl ?_);refine gl_ (some 12) Tryz.func55 #[.agg #[.int .i64 a0_0, .int .i64 a0_1, .int .i64 a0_2], .slice A1 l1.length c1] ?_;(with_reducible refine (bAz.calls k a0_0 a0_1 a0_2 _ _ l1 t116 t119 _ (xd_ (Kd.aLz HR1.out HB.out)) (HC1.out) A3.out).mono ?_);rintro e w9 ⟨v117,rfl,ho0,hb⟩;refine ⟨_,rfl,?_⟩;have n_:=And.intro (Aside0.mk (Kd.caz (Kd.b4z (ok':=fun k_=>(w.heap.size<=k_)/\k_≠gb115) (Kd.S_N (Kd.bLz ho0)) (fun k_ hk_=>⟨(Nat.le_trans (aez bl_) hk_.2.1),(Kd.freshB (g:=gb115) (o:= .cells #[.int .i64 a0_0, .int .i64 a0_1, .int .i64 a0_2] 23 (0,0)) bk_ k_ hk_.2.1)⟩)) (aez bl_))) (And.intro (bb_ BK115 hb) (hs_ HB hb));clear BK115 HB;obtain ⟨HO118,BK115,HB⟩:=n_;clear hb ho0;obtain ⟨hcz10_0,hfz10_0,hcz10_1,hfz10_1,hcz10_2,hfz10_2⟩:=bc3_ BK115.out;obtain ⟨Ao11,co11,eo11⟩:=Kd.cFz HO118.out;subst eo11)|((with_reducible refine abz (f:=19) rfl ?_);refine gl_ (some 21) Tryz.func19 #[.agg #[.int .i64 a0_0, .int .i64 a0_1, .int .i64 a0_2], .slice Ao11 t116.length co11] ?_;(with_reducible refine (aCz.calls k a0_0 a0_1 a0_2 _ _ t116 t120 t123 _ (xd_ (Kd.bDz HO118.out).2.2) ((Kd.bDz HO118.out).2.1) A5.out).mono ?_);rintro e w12 ⟨v121,rfl,ho0,hb⟩;refine ⟨_,rfl,?_⟩;have n_:=And.intro (Aside0.mk (Kd.cnz (xd_ HO118.out) (Kd.dfz ho0) hb)) (And.intro (Aside0.mk (Kd.caz (Kd.b4z (ok':=fun k_=>(w.heap.size<=k_)/\some k_≠(.slice Ao11 t116.length co11:Value).ownBlock/\k_≠gb115) (Kd.S_N (Kd.bLz ho0)) (fun k_ hk_=>⟨(Nat.le_trans (aez bl_) hk_.2.1),(Kd.fresh' (Kd.N_lt (xd_ HO118.out)) k_ hk_.2.1),(Kd.freshB (g:=gb115) (o:= .cells #[.int .i64 a0_0, .int .i64 a0_1, .int .i64 a0_2] 23 (0,0)) bk_ k_ hk_.2.1)⟩)) (aez bl_))) (And.intro (bb_ BK115 hb) (hs_ HB hb)));clear HO118 BK115 HB;obtain ⟨HO118,HO122,BK115,HB⟩:=n_;clear hb ho0;obtain ⟨Ao14,co14,eo14⟩:=Kd.cFz HO122.out;subst eo14)|((with_reducible refine aoz (b:= .append) (xs:= #[.tmp 24, .tmp 25]) rfl ?_);at_builtin;refine Kd.eQz (Kd.slice 5 (Kd.int .u8)) (w0:=w) w.heap.size rfl (.tmp 24) (.tmp 25) 24 34 (.slice none 0 0) 24 rfl Tryz.underlying24 info34 rfl (by decide) (by omega) (.slice Ao11 t116.length co11) t116 t120 _ _ _ (fun k_=>(w.heap.size<=k_)/\k_≠gb115) (fun k_=>((fun k_=>(w.heap.size<=k_)/\k_≠gb115)) k_/\some k_≠(.slice Ao11 t116.length co11:Value).ownBlock) rfl rfl ?aO ?aR (fun _ hk=>hk) ?aF ?aB ?aS ?aL ?_;(case aR=>exact (by skip;exact Kd.N_F (Kd.b4z (ok':=(fun k_=>((fun k_=>(w.heap.size<=k_)/\k_≠gb115)) k_/\some k_≠(.slice Ao11 t116.length co11:Value).ownBlock)) (HO122.out) (fun k_ hk=>⟨⟨hk.1,hk.2.2⟩,hk.2.1⟩))));(case aB=>exact bl_);(case aF=>exact (fun k_ hk=>⟨(Nat.le_trans (aez bl_) hk),Kd.freshB (g:=gb115) (o:= .cells #[.int .i64 a0_0, .int .i64 a0_1, .int .i64 a0_2] 23 (0,0)) bk_ k_ hk⟩));(case aO=>exact (nm_ HO118));(case aS=>exact (aez bl_));(case aL=>have:=LMc6.out;omega);intro v125 w13 ho hb hg hat;rw [<-Ny124.out] at ho;have n_:=And.intro (Aside0.mk (blk_grown (g:=gb115) (o:= .cells #[.int .i64 a0_0, .int .i64 a0_1, .int .i64 a0_2] 23 (0,0)) bk_ hg (Kd.N_ne HO118.out BK115.out (by decide)))) (And.intro (Aside0.mk (Kd.cyz (ok:=(fun k_=>(w.heap.size<=k_)/\k_≠gb115)) (nm_ HO122) hg hat)) (And.intro (Aside0.mk (hb)) (Aside0.mk (ho))));clear BK115 HO122 HB HO118;obtain ⟨BK115,HO122,HB,HO126⟩:=n_;clear ho hb hg hat))
 go_ret2;exact ⟨_,er_,nm_ HO126,bl_⟩
theorem C_numsF {k:IntKind} {w:World} {g:Nat} {t:TypeId} {xs:List Int} {fr:Nat×Nat} (h:w.heap[g]?=some (.cells (nums k xs).toArray t fr)) (hl:xs.length<=9223372036854775807):Kd.C (Kd.int k) w (some ⟨g,0,none⟩) xs.length xs:=by
 refine ⟨rfl,hl,fun _=>⟨_,rfl,fun j p hp=>⟨[.int k p],rfl,rfl,fun i u hu=> ?_⟩⟩⟩;obtain ⟨hj,rfl⟩:=List.getElem?_eq_some_iff.1 hp
 cases i with
 |succ i=>simp at hu
 |zero=>
  obtain rfl:Value.int k xs[j] =u:=by simpa using hu
  have e:(⟨g,0,none⟩:Addr).add (j*(Kd.int k).sz+0)=⟨g,j,none⟩:=by
   show (⟨g,0,none⟩:Addr).add (j*1+0)=_;unfold Addr.add;split<;>simp_all
  rw [e,cell_of_row w g j _ t fr h];simp [nums,hj]
def cgz.f (_:Nat):Option (Bool):=some true
def awake11.b:List Int:= [97,98,99,100,101,102,103,104,65,66,67,68,69,70,71,72]
def awake11.l:List (List Int):= [[97,98,99,100,101,102,103,104], [65,66,67,68,69,70,71,72], [32,32,32,32,32,32,32,32]]
theorem awake11.enc:cSz.f 199 1 2 1 awake11.b=some (awake11.l,0):=by kernel_rfl
theorem awake11.ver:bjz.f 199 1 2 1 awake11.l=some true:=by kernel_rfl
theorem cgz.calls (k:Nat) (r:Bool) (w:World) (h:cgz.f k=some r):
 Calls Tryz.prog 17 #[] w fun e w'=>e= .returned (.bool r)/\Below w.heap.size w w':=by
 obtain rfl:true=r:=by injection h
 clear h;have kc:=fun (w:World) (C:Array Value) (n c:Nat)=>Lib.run_convert_bytes_const (P:=Tryz.prog) w 34 5 C n c Tryz.underlying34 Tryz.underlying5
 have HE:=Aside0.mk (fun (W:World) (A:Option Addr) (hr:Kd.C (Kd.int .u8) W A awake11.b.length awake11.b)=>cSz.calls 199 1 2 1 A 16 awake11.b awake11.l 0 W hr (by decide) awake11.enc);have HV:=Aside0.mk (fun (W:World) (A:Option Addr) (c:Nat) (hr:Kd.C (Kd.slice 5 (Kd.int .u8)) W A awake11.l.length awake11.l) (hc:3<=c)=>bjz.calls 199 1 2 1 A c awake11.l true W hr hc awake11.ver);go_enter Tryz.func17,Tryz.ntmps17
 go_wp2_with fail
 refine (HE.out _ (some ⟨w.heap.size,0,none⟩) (C_numsF (fr:=(16,17)) (heap_alloc_new _ _) (by decide))).mono ?_;rintro e w1 ⟨v,rfl,q1,q2⟩;have HB1:=Aside0.mk ((anz (Below.refl _ _) _).trans (q2.mono (by simp)):Below w.heap.size w w1);obtain ⟨gg,c,rfl, -, -, -⟩:=Kd.N_form q1 (by decide);obtain ⟨-,hc,hC⟩:=Kd.bDz q1;have HC:=Aside0.mk hC;obtain ⟨ad,A2,c2,he,e2, -,C2⟩:=b5z hC 2 [32,32,32,32,32,32,32,32] rfl;obtain rfl:=Option.some.inj he;rw [show (⟨gg,0,none⟩:Addr).add 2=⟨gg,2,none⟩ by unfold Addr.add;split<;>simp_all] at e2;clear he;have hst:=Kd.C_string (P:=Tryz.prog) (c:=c2) Tryz.underlying34 Tryz.underlying5 Tryz.underlying9 C2;have hss:(strOfNums [32,32,32,32,32,32,32,32] :ByteArray)=⟨#[32,32,32,32,32,32,32,32]⟩:=by kernel_rfl
 rw [hss] at hst;have hl8:([32,32,32,32,32,32,32,32] :List Int).length=8:=rfl;rw [hl8] at hst e2;have hl3:awake11.l.length=3:=rfl;have HV1:=Aside0.mk (HV.out w1 _ c HC.out hc);rw [hl3] at HV1 hc|-;clear q1 q2 hC C2 HE HV kc hss
 go_wp2_with fail
 refine HV1.out.mono ?_;rintro e w2 ⟨rfl,q2⟩;have HB2:=Aside0.mk (HB1.out.trans (q2.mono HB1.out.size));clear q2;go_wp2;go_ret;exact ⟨rfl,HB2.out⟩
def aYz.f (k:Nat) (a0_0:Int) (a0_1:Int) (a0_2:Int) (l1:List (List Int)):Option (Bool):=(cgz.f k).bind fun t790=>((aFz.f k l1).bind fun t791=>(if t791=true then ((aCz.f k a0_0 a0_1 a0_2 l1).bind fun bt792=>((apz.f k a0_0 a0_1 a0_2 l1).bind fun bt796=>(if t790=true then ((aXz.f k bt792.1 bt796.1).bind fun t800=>(if t800=true then (if bt792.2=bt796.2 then ((bjz.f k a0_0 a0_1 a0_2 l1).bind fun t801=>((aAz.f k a0_0 a0_1 a0_2 l1).bind fun t802=>(some (t801==t802)))) else (some false)) else (some false))) else (some false)))) else (some t790)))
def aYz.T6:Bool×List (List Nat×List Nat):=(true, [([], []),([0], [0]),([1], [1]),([1], [1]),([2,3,1,1], [1,2,3]),([1,4], [1,4]),([5,4], [5]),([6], [6]),([6], [6]),([7,8,6], [6,7,8]),([6,9], [6,9]),([10,6], [10]),([11], [11]),([11], [11]),([12,13,11,11], [11,12,13]),([11], [11]),([11], [11]),([15,16,14,11], [11,15,16]),([14,17,11], [11,14,17]),([11,18], [11,18]),([19,17,0,1,2,3,4,5,6,7,8,9,10,11,12,13,14,15,16,17,18,19], [19])])
def aYz.B6:List Nat:= [0,1,3,3,15,31,63,127,127,511,1023,2047,4095,4095,16383,4095,4095,131071,262143,524287,1048575]
theorem aYz.tab6:rtab .any (opsOf Tryz.f3 6)=aYz.T6:=by kernel_rfl
theorem aYz.bits6:waitsOk aYz.T6.2 aYz.B6=true:=by kernel_rfl
theorem aYz.calls (k : Nat) (a0_0 : Int) (a0_1 : Int) (a0_2 : Int) (A1 : Option Addr) (c1 : Nat) (l1 : List (List Int)) (r : Bool) (w : World) (hr_ : Aside0 (r = true)) (hr1 : Kd.C (Kd.slice 5 (Kd.int .u8)) w A1 l1.length l1) (hc1 : l1.length <= c1) (h : aYz.f k a0_0 a0_1 a0_2 l1 = some r) :
  Calls Tryz.prog 3 #[.agg #[.int .i64 a0_0, .int .i64 a0_1, .int .i64 a0_2], .slice A1 l1.length c1] w fun e w'=>e= .returned (.bool r)/\Below w.heap.size w w':=by
 have hu23:=Tryz.underlying23;have HR1:=Aside0.mk hr1;have HC1:=Aside0.mk hc1;clear hr1 hc1;have HB:=Aside0.mk (Below.refl w.heap.size w);have H:=h;clear h;unfold aYz.f at H;obtain ⟨t790,A3,H⟩:=ob_ H
 (try dsimp only at H)
 obtain ⟨t791,A4,H⟩:=ob_ H
 (try dsimp only at H)
 by_cases c5:t791=true
 rotate_left
 ·replace c5:=Bool.eq_false_iff.mpr c5;subst c5;rw [if_neg (show¬(false=true) by decide)] at H;obtain rfl:=Option.some.inj H;go_enter Tryz.func3,Tryz.ntmps3
  go_wp2_with (first|((with_reducible refine a8z (N:=2) rfl ?_);refine bx_ 2 #[.int .i64 a0_0, .int .i64 a0_1, .int .i64 a0_2] 23 ?_;intro gb789 hg w25 hbox hb;have n_:=And.intro (hs_ HB hb) (And.intro (Aside0.mk (hbox)) (And.intro (ag_ HB gb789) (ag_ HB gb789)));clear HB;obtain ⟨HB,BK789,GW789,GE789⟩:=n_;clear hb hbox hg)|((with_reducible refine abz (f:=17) rfl ?_);refine gl_ (some 10) Tryz.func17 #[] ?_;(with_reducible refine (cgz.calls k  t790 _ A3.out).mono ?_);rintro e w26 ⟨rfl,hb⟩;refine ⟨_,rfl,?_⟩;have n_:=And.intro (bb_ BK789 hb) (hs_ HB hb);clear BK789 HB;obtain ⟨BK789,HB⟩:=n_;(try clear hb))|((with_reducible refine abz (f:=18) rfl ?_);refine gl_ (some 12) Tryz.func18 #[.slice A1 l1.length c1] ?_;(with_reducible refine (aFz.calls k _ _ l1 false _ (xd_ (Kd.aLz HR1.out HB.out)) (HC1.out) A4.out).mono ?_);rintro e w' ⟨rfl,⟨nd,rfl⟩⟩;refine ⟨_,rfl,?_⟩))
  go_ret;exact ⟨er_,bl_⟩
 subst c5;rw [if_pos rfl] at H;obtain ⟨⟨t792,t795⟩,A6,H⟩:=ob_ H
 (try dsimp only at H)
 obtain ⟨⟨t796,t799⟩,A7,H⟩:=ob_ H
 (try dsimp only at H)
 by_cases c8:t790=true
 rotate_left
 ·replace c8:=Bool.eq_false_iff.mpr c8;subst c8;rw [if_neg (show¬(false=true) by decide)] at H;exact absurd ((Option.some.inj H).trans hr_.out) (by simp)
 subst c8;rw [if_pos rfl] at H;obtain ⟨t800,A9,H⟩:=ob_ H
 (try dsimp only at H)
 by_cases c10:t800=true
 rotate_left
 ·replace c10:=Bool.eq_false_iff.mpr c10;subst c10;rw [if_neg (show¬(false=true) by decide)] at H;exact absurd ((Option.some.inj H).trans hr_.out) (by simp)
 subst c10;rw [if_pos rfl] at H;by_cases c11:t795=t799
 rotate_left
 ·rw [if_neg c11] at H;have c11b0:(t795==t799)=false:=beq_eq_false_iff_ne.mpr c11;have c11b1:(t795 !=t799)=true:=bne_iff_ne.mpr c11;exact absurd ((Option.some.inj H).trans hr_.out) (by simp)
 rw [if_pos c11] at H;have c11b0:(t795==t799)=true:=beq_iff_eq.mpr c11;have c11b1:(t795 !=t799)=false:=bne_eq_false_iff_eq.mpr c11;clear c11;obtain ⟨t801,A12,H⟩:=ob_ H
 (try dsimp only at H)
 obtain ⟨t802,A13,H⟩:=ob_ H
 (try dsimp only at H)
 obtain rfl:=Option.some.inj H;go_enter Tryz.func3,Tryz.ntmps3
 try go_wp2_with (first|((with_reducible refine a8z (N:=2) rfl ?_);refine bx_ 2 #[.int .i64 a0_0, .int .i64 a0_1, .int .i64 a0_2] 23 ?_;intro gb789 hg w14 hbox hb;have n_:=And.intro (hs_ HB hb) (And.intro (Aside0.mk (hbox)) (And.intro (ag_ HB gb789) (ag_ HB gb789)));clear HB;obtain ⟨HB,BK789,GW789,GE789⟩:=n_;clear hb hbox hg)|((with_reducible refine abz (f:=17) rfl ?_);refine gl_ (some 10) Tryz.func17 #[] ?_;(with_reducible refine (cgz.calls k  true _ A3.out).mono ?_);rintro e w15 ⟨rfl,hb⟩;refine ⟨_,rfl,?_⟩;have n_:=And.intro (bb_ BK789 hb) (hs_ HB hb);clear BK789 HB;obtain ⟨BK789,HB⟩:=n_;(try clear hb))|((with_reducible refine abz (f:=18) rfl ?_);refine gl_ (some 12) Tryz.func18 #[.slice A1 l1.length c1] ?_;(with_reducible refine (aFz.calls k _ _ l1 true _ (xd_ (Kd.aLz HR1.out HB.out)) (HC1.out) A4.out).mono ?_);rintro e w' ⟨rfl,⟨nd,rfl⟩⟩;refine ⟨_,rfl,?_⟩;obtain ⟨hcz16_0,hfz16_0,hcz16_1,hfz16_1,hcz16_2,hfz16_2⟩:=bc3_ BK789.out)|((with_reducible refine abz (f:=19) rfl ?_);refine gl_ (some 18) Tryz.func19 #[.agg #[.int .i64 a0_0, .int .i64 a0_1, .int .i64 a0_2], .slice A1 l1.length c1] ?_;(with_reducible refine (aCz.calls k a0_0 a0_1 a0_2 _ _ l1 t792 t795 _ (xd_ (Kd.aLz HR1.out bl_)) (HC1.out) A6.out).mono ?_);rintro e w17 ⟨v793,rfl,ho0,hb⟩;refine ⟨_,rfl,?_⟩;have n_:=And.intro (Aside0.mk (Kd.cwz ho0 (aez bl_))) (And.intro (bb_ BK789 hb) (hs_ HB hb));clear BK789 HB;obtain ⟨HO794,BK789,HB⟩:=n_;clear hb ho0;obtain ⟨hcz18_0,hfz18_0,hcz18_1,hfz18_1,hcz18_2,hfz18_2⟩:=bc3_ BK789.out)|((with_reducible refine abz (f:=20) rfl ?_);refine gl_ (some 24) Tryz.func20 #[.agg #[.int .i64 a0_0, .int .i64 a0_1, .int .i64 a0_2], .slice A1 l1.length c1] ?_;(with_reducible refine (apz.calls k a0_0 a0_1 a0_2 _ _ l1 t796 t799 _ (xd_ (Kd.aLz HR1.out HB.out)) (HC1.out) A7.out).mono ?_);rintro e w19 ⟨v797,rfl,ho0,hb⟩;refine ⟨_,rfl,?_⟩;have n_:=And.intro (Aside0.mk (Kd.S_elder' (xd_ HO794.out) (Kd.dfz ho0) hb)) (And.intro (Aside0.mk (Kd.cwz (Kd.S_new' ho0 (Kd.S_lt (xd_ HO794.out))) (aez bl_))) (And.intro (bb_ BK789 hb) (hs_ HB hb)));clear HO794 BK789 HB;obtain ⟨HO794,HO798,BK789,HB⟩:=n_;clear hb ho0))
 have n_:=And.intro (Aside0.mk (Kd.S_drew HO794.out)) (And.intro (Aside0.mk (Kd.S_drew HO798.out)) (And.intro (Aside0.mk (cmz BK789.out)) (Aside0.mk (bWz HB.out))));clear HO794 HO798 BK789 HB;obtain ⟨HO794,HO798,BK789,HB⟩:=n_;obtain ⟨Ao21,co21,eo21⟩:=Kd.S_slice HO794.out
 (first|subst eo21|(injection eo21 with f1_ f2_ f3_;have f4_:=f1_.symm;have f5_:=f3_.symm;clear f1_ f2_ f3_;subst f4_;subst f5_))
 obtain ⟨Ao22,co22,eo22⟩:=Kd.S_slice HO798.out
 (first|subst eo22|(injection eo22 with f1_ f2_ f3_;have f4_:=f1_.symm;have f5_:=f3_.symm;clear f1_ f2_ f3_;subst f4_;subst f5_))
 refine bPz (n:=21) (S:=fun w'=>w'.cell? ⟨gb789,0,none⟩=some (.int .i64 a0_0)/\w'.cell? ⟨gb789,1,none⟩=some (.int .i64 a0_1)/\w'.cell? ⟨gb789,2,none⟩=some (.int .i64 a0_2)) (ds:= []) (bA 21 0) kr_ rfl rfl ⟨(acz BK789.out 0).trans rfl,(acz BK789.out 1).trans rfl,(acz BK789.out 2).trans rfl⟩ (fun hHeld=> ?_);refine crz aYz.tab6 aYz.bits6 (fun HT_ HW_=> ?_);generalize w19.drew=w20 at HO794 HO798 BK789 HB hHeld|-;refine pv_ 0 27 1 HT_ ?_;refine pv_ 1 28 3 HT_ ?_;refine pv_ 2 29 7 HT_ ?_;refine pv_ 3 30 15 HT_ ?_;refine one_ (i:=4) (N:=some 31) (bA 21 31) rfl rfl (cqz HT_.out kr_) (by decide) (fun K hK=> ?_);refine goes_ Tryz.func21 kr_ rfl #[.slice Ao21 t792.length co21, .slice Ao22 t796.length co22] (by rfl) rfl rfl ar_ ?_
 with_reducible refine (aXz.calls k _ _ t792 _ _ t796 true _ ?side1 ?side2 ?side3 ?side4 A9.out).mono ?_
 (case side1=>repeat (first|exact (Kd.cOz HO794.out).2.2|(with_reducible refine Kd.bUz ?_ _)|(with_reducible refine Kd.bvz ?_ _)|(with_reducible refine Kd.bZz ?_)))
 (case side2=>exact (Kd.cOz HO794.out).2.1)
 (case side3=>repeat (first|exact (Kd.cOz HO798.out).2.2|(with_reducible refine Kd.bUz ?_ _)|(with_reducible refine Kd.bvz ?_ _)|(with_reducible refine Kd.bZz ?_)))
 (case side4=>exact (Kd.cOz HO798.out).2.1)
 rintro e w' ⟨rfl,⟨nd,rfl⟩⟩;refine ⟨_,rfl,?_⟩;refine hK.out _ _ ⟨(acz BK789.out 0).trans rfl,(acz BK789.out 1).trans rfl,(acz BK789.out 2).trans rfl⟩ (fun hHeld=> ?_);clear hK K;refine norm_ (a':= ?_) ?_ ?_;rotate_left
 ·show Act.put _ (some 31) _=_;simp only [Act.put,List.setIfInBounds_toArray,List.set_cons_zero,List.set_cons_succ,i64_w,i32_w];rfl
 refine pv_ 5 32 63 HT_ ?_;refine pv_ 6 33 127 HT_ ?_;refine pv_ 7 34 255 HT_ ?_;refine pv_ 8 35 511 HT_ ?_;refine pv_ 9 36 1023 HT_ ?_;refine pv_ 10 37 2047 HT_ ?_;refine pv_ 11 38 4095 HT_ ?_;refine pv_ 13 40 12287 HT_ ?_;refine pv_ 16 43 77823 HT_ ?_;refine tw_ 12 39 81919 HT_ HW_ hHeld ?_;refine tw_ 15 42 114687 HT_ HW_ hHeld ?_;refine one_ (i:=14) (N:=some 41) (bA 21 131071) rfl rfl (cqz HT_.out kr_) (by decide) (fun K hK=> ?_);refine goes_ Tryz.func22 kr_ rfl #[.agg #[.int .i64 a0_0, .int .i64 a0_1, .int .i64 a0_2], .slice A1 l1.length c1] (by rfl) rfl rfl ar_ ?_
 with_reducible refine (bjz.calls k a0_0 a0_1 a0_2 _ _ l1 t801 _ ?side1 ?side2 A12.out).mono ?_
 (case side1=>repeat (first|exact (Kd.aLz HR1.out bl_)|(with_reducible refine Kd.bUz ?_ _)|(with_reducible refine Kd.bvz ?_ _)|(with_reducible refine Kd.bZz ?_)))
 (case side2=>exact HC1.out)
 rintro e w23 ⟨rfl,hb⟩;refine ⟨_,rfl,?_⟩;have n_:=And.intro (Aside0.mk (Kd.cYz (xd_ HO794.out) hb)) (And.intro (Aside0.mk (Kd.cYz (xd_ HO798.out) hb)) (And.intro (bb_ BK789 hb) (hs_ HB hb)));clear HO794 HO798 BK789 HB;obtain ⟨HO794,HO798,BK789,HB⟩:=n_
 (try clear hb)
 (try clear hb2)
 (try clear hk)
 (try clear hi)
 refine hK.out _ _ ⟨(acz BK789.out 0).trans rfl,(acz BK789.out 1).trans rfl,(acz BK789.out 2).trans rfl⟩ (fun hHeld=> ?_);clear hK K;refine norm_ (a':= ?_) ?_ ?_;rotate_left
 ·show Act.put _ (some 41) _=_;simp only [Act.put,List.setIfInBounds_toArray,List.set_cons_zero,List.set_cons_succ,i64_w,i32_w];rfl
 refine one_ (i:=17) (N:=some 44) (bA 21 262143) rfl rfl (cqz HT_.out kr_) (by decide) (fun K hK=> ?_);refine goes_ Tryz.func23 kr_ rfl #[.agg #[.int .i64 a0_0, .int .i64 a0_1, .int .i64 a0_2], .slice A1 l1.length c1] (by rfl) rfl rfl ar_ ?_
 with_reducible refine (aAz.calls k a0_0 a0_1 a0_2 _ _ l1 t802 _ ?side1 ?side2 A13.out).mono ?_
 (case side1=>repeat (first|exact (Kd.aLz HR1.out HB.out)|(with_reducible refine Kd.bUz ?_ _)|(with_reducible refine Kd.bvz ?_ _)|(with_reducible refine Kd.bZz ?_)))
 (case side2=>exact HC1.out)
 rintro e w24 ⟨rfl,hb⟩;refine ⟨_,rfl,?_⟩;have n_:=And.intro (Aside0.mk (Kd.cYz (xd_ HO794.out) hb)) (And.intro (Aside0.mk (Kd.cYz (xd_ HO798.out) hb)) (And.intro (bb_ BK789 hb) (hs_ HB hb)));clear HO794 HO798 BK789 HB;obtain ⟨HO794,HO798,BK789,HB⟩:=n_
 (try clear hb)
 (try clear hb2)
 (try clear hk)
 (try clear hi)
 refine hK.out _ _ ⟨(acz BK789.out 0).trans rfl,(acz BK789.out 1).trans rfl,(acz BK789.out 2).trans rfl⟩ (fun hHeld=> ?_);clear hK K;refine norm_ (a':= ?_) ?_ ?_;rotate_left
 ·show Act.put _ (some 44) _=_;simp only [Act.put,List.setIfInBounds_toArray,List.set_cons_zero,List.set_cons_succ,i64_w,i32_w];rfl
 refine pv_ 18 45 524287 HT_ ?_;refine pv_ 19 46 1048575 HT_ ?_;refine pv_ 20 4 2097151 HT_ ?_;refine done_ (cRz HT_.out kr_) ?_
 try go_wp2
 go_ret;exact ⟨er_,bl_⟩
def xorB (a b:List Int):List Int:=List.zipWith (fun x y=>Go.bits .xor .u8 x y) a b
def sumB (L:Nat) (rows:List (List Int)):List Int:=rows.foldl xorB (List.replicate L 0)
theorem c0z (a b:List Int) (h:a.length=b.length):(xorB a b).length=b.length:=by simp [xorB];omega
theorem e1z {L:Nat} : ∀(rows:List (List Int)) (acc:List Int),acc.length=L->(∀r,r∈rows->r.length=L)->(rows.foldl xorB acc).length=L
 | [],acc,h,_=>h
 |r::rs,acc,h,hr=>by
  have h1:=hr r (List.mem_cons_self ..);exact e1z rs (xorB acc r) (by rw [c0z _ _ (h.trans h1.symm)];exact h1) (fun q hq=>hr q (List.mem_cons_of_mem _ hq))
theorem sumB_length {L:Nat} (rows:List (List Int)) (h: ∀r,r∈rows->r.length=L):(sumB L rows).length=L:=e1z rows _ (by simp) h
theorem dFz {j:Nat} (h:j<=1000000000):wrap64 ((j:Int)+1)=((j+1:Nat):Int):=by unfold wrap64;omega
theorem sum_l1 (rows : List (List Int)) (n : Int) (i : Nat) (acc row : List Int) (r : List Int × Int) (K : Nat) (hl : acc.length = row.length) (hL : row.length <= 100000000) (hi : i <= 100000000)
  (h:aKz.l0 K (xorB acc row) rows n ((i+1:Nat):Int)=some r):
  ∀(d j:Nat),j+d=row.length->aKz.l1 (K+d+1) ((xorB acc row).take j++acc.drop j) rows n (i:Int) row (row.length:Int) (j:Int)=some r
 |0,j,hj=>by
  obtain rfl:j=row.length:=by omega
  unfold aKz.l1;rw [if_neg (by omega),dFz (by omega),List.take_of_length_le (by rw [c0z _ _ hl];exact Nat.le_refl _),List.drop_of_length_le (by omega),List.append_nil];exact h
 |d+1,j,hj=>by
  have hlx:=c0z _ _ hl;have hjl:j<row.length:=by omega
  have hlen:((xorB acc row).take j++acc.drop j).length=row.length:=by simp [hlx];omega
  unfold aKz.l1;rw [if_pos (by omega),if_pos (by omega),if_pos (by omega),if_pos (by omega),dFz (by omega)]
  have hset:((xorB acc row).take j++acc.drop j).set (j:Int).toNat (Go.bits .xor .u8 (rd ((xorB acc row).take j++acc.drop j) (j:Int)) (rd row (j:Int)))=(xorB acc row).take (j+1)++acc.drop (j+1):=by
   have e1:rd ((xorB acc row).take j++acc.drop j) (j:Int)=acc.getD j 0:=by
    unfold rd;rw [Int.toNat_natCast,List.getD_eq_getElem?_getD,List.getElem?_append_right (by simp [hlx];omega),List.getElem?_drop];simp [hlx,Nat.min_eq_left (Nat.le_of_lt hjl)]
   have e2:rd row (j:Int)=row.getD j 0:=by unfold rd;rw [Int.toNat_natCast]
   rw [e1,e2,Int.toNat_natCast];apply List.ext_getElem?
   intro q;have hja:j<acc.length:=by omega
   have hx:(xorB acc row)[j]?=some (Go.bits .xor .u8 (acc.getD j 0) (row.getD j 0)):=by
    unfold xorB;rw [List.getElem?_zipWith,List.getElem?_eq_getElem hja,List.getElem?_eq_getElem hjl];simp [List.getD_eq_getElem?_getD,List.getElem?_eq_getElem hja,List.getElem?_eq_getElem hjl]
   rw [List.getElem?_set];by_cases hq:j=q
   ·subst hq;rw [if_pos rfl,if_pos (by omega),List.getElem?_append_left (by simp [hlx];omega),List.getElem?_take,if_pos (by omega),hx]
   ·rw [if_neg hq];by_cases hlt:q<j
    ·rw [List.getElem?_append_left (by simp [hlx];omega),List.getElem?_append_left (by simp [hlx];omega),List.getElem?_take,List.getElem?_take,if_pos hlt,if_pos (by omega)]
    ·rw [List.getElem?_append_right (by simp [hlx];omega),List.getElem?_append_right (by simp [hlx];omega),List.getElem?_drop,List.getElem?_drop];congr 1
     simp [hlx,Nat.min_eq_left (Nat.le_of_lt hjl),Nat.min_eq_left (show j+1<=row.length from hjl)];omega
  rw [hset];have:=sum_l1 rows n i acc row r K hl hL hi h d (j+1) (by omega);rw [show K+(d+1)=K+d+1 by omega];exact this
theorem sum_l0 (rows : List (List Int)) (L : Nat) (hL : L <= 100000000) (hn : rows.length <= 1000) (hr : ∀ r, r ∈ rows -> r.length = L) :
  ∀(m i:Nat) (acc:List Int),i+m=rows.length->acc.length=L-> ∃K,aKz.l0 K acc rows (rows.length:Int) (i:Int)=some ((rows.drop i).foldl xorB acc,0)
 |0,i,acc,hi,ha=>by
  refine ⟨1,?_⟩;unfold aKz.l0;rw [if_neg (by omega),List.drop_of_length_le (by omega)];rfl
 |m+1,i,acc,hi,ha=>by
  obtain ⟨row,hrow⟩: ∃r,rows[i]?=some r:=⟨_,List.getElem?_eq_getElem (by omega)⟩;have hrl:=hr row (List.mem_of_getElem? hrow)
  have hd:rows.drop i=row::rows.drop (i+1):=by
   obtain ⟨h1,h2⟩:=List.getElem?_eq_some_iff.1 hrow;rw [List.drop_eq_getElem_cons h1,h2]
  obtain ⟨K,hK⟩:=sum_l0 rows L hL hn hr m (i+1) (xorB acc row) (by omega) (by rw [c0z _ _ (by omega)];exact hrl);have h1:=sum_l1 rows (rows.length:Int) i acc row _ K (by omega) (by omega) (by omega) hK row.length 0 (by omega);refine ⟨K+row.length+1+1,?_⟩;have hrd:rd_L1 rows (i:Int)=row:=by unfold rd_L1;rw [Int.toNat_natCast,List.getD_eq_getElem?_getD,hrow];rfl
  unfold aKz.l0;rw [if_pos (by omega),if_pos (by omega),if_pos (by omega),hrd,if_pos (by omega),hd]
  simpa using h1
theorem sum_ev (rows:List (List Int)) (L:Nat) (hL:L<=100000000) (hn:rows.length<=1000) (h0:0<rows.length) (hr: ∀r,r∈rows->r.length=L):Ev (fun k=>aKz.f k rows) (sumB L rows,0):=by
 obtain ⟨row,hrow⟩: ∃r,rows[0]?=some r:=⟨_,List.getElem?_eq_getElem h0⟩;have hrl:=hr row (List.mem_of_getElem? hrow);have hrd:rd_L1 rows 0=row:=by unfold rd_L1;rw [show (0:Int).toNat=0 from rfl,List.getD_eq_getElem?_getD,hrow];rfl
 obtain ⟨K,hK⟩:=sum_l0 rows L hL hn hr rows.length 0 (List.replicate L 0) (by omega) (by simp);refine Ev.of (fun k=>aKz.mono _ k) (k:=K) ?_;unfold aKz.f;rw [if_pos (by omega),hrd,if_pos (by omega),if_pos (by omega),hrl,Int.toNat_natCast]
 simpa [sumB] using hK
def dGz.f (l0_0:List (List Int)) (a0_1:Int) (a1:Int):Option (Int×Int×Int):=some (a1,a0_1,wrap64 ((l0_0.length:Int) - a0_1))
def cuz.f (k:Nat) (l0_0:List (List Int)) (a0_1:Int) (a1:Int):Option (Bool):=if 0<(l0_0.length:Int) then ((a6z.f k a1 8 1 0).bind fun bt141=>(if ((rd_L1 l0_0 0).length:Int)>0 then (if bt141.1=0 then (none) else (some ((((rd_L1 l0_0 0).length:Int) % bt141.1)==0))) else (some false))) else (none)
def b3z.f (k:Nat) (l0_0:List (List Int)) (a0_1:Int) (a1:Int):Option (Bool):=(dGz.f l0_0 a0_1 a1).bind fun bt144=>((aJz.f bt144.1 bt144.2.1 bt144.2.2).bind fun t148=>(if t148=true then ((cuz.f k l0_0 a0_1 a1).bind fun t149=>(if t149=true then ((bjz.f k bt144.1 bt144.2.1 bt144.2.2 l0_0).bind fun t150=>(some t150)) else (some false))) else (some false)))
def bJz.l0:Nat->List Int->Int->Option (List Int)
 |0,_,_=>none
 |k+1,x1,x3=>if x3<6 then (if x1.length<17592186044416 then (bJz.l0 k (x1++ [wrap64 (x3+1)]) (wrap64 (x3+1))) else (none)) else (some x1)
def bJz.f (k:Nat)  :Option (List Int):=bJz.l0 k ([] :List Int) 0
theorem bJz.aUz: ∀k,(∀y0 y1,LeO (bJz.l0 k y0 y1) (bJz.l0 (k+1) y0 y1))
 |0=>fun _ _ r h=>by simp [bJz.l0] at h
 |k+1=>by
  have ih0:=bJz.aUz k
  ·intro y0 y1;unfold bJz.l0
   repeat' with_reducible first|apply ih0|apply LeO.refl|apply LeO.none|apply LeO.ite|refine LeO.bind ?_ fun _=>?_
theorem bJz.mono: ∀k,LeO (bJz.f k) (bJz.f (k+1)):=by
 intro  k;have ih0:=bJz.aUz k;unfold bJz.f
 repeat' with_reducible first|apply ih0|apply LeO.refl|apply LeO.none|apply LeO.ite|refine LeO.bind ?_ fun _=>?_
theorem byteF_len (wb a:Int):(byteF wb a).length=wN wb:=by unfold byteF wN;split<;>rfl
theorem bytesF_len (wb:Int): ∀l:List Int,(bytesF wb l).length=l.length*wN wb
 | [] =>by simp [bytesF]
 |a::l=>by
  have h1:=bytesF_len wb l;have h3:bytesF wb (a::l)=byteF wb a++bytesF wb l:=by unfold bytesF;rw [List.flatMap_cons]
  rw [h3,List.length_append,byteF_len,h1,List.length_cons,Nat.add_mul];omega
theorem mulB_len (wb c:Int) (b:List Int) (h:b.length % wN wb=0):(mulB wb c b).length=b.length:=by
 unfold mulB;rw [bytesF_len,List.length_map,eTz];exact Nat.div_mul_cancel (Nat.dvd_of_mod_eq_zero h)
def dotV (L:Nat) (wb:Int) (c:List Int) (rows:List (List Int)):List Int:=sumB L (List.zipWith (mulB wb) c rows)
theorem zip_len {wb:Int} {L:Nat} (hd:L % wN wb=0) {c:List Int} {rows:List (List Int)} (hr: ∀r,r∈rows->r.length=L): ∀r,r∈List.zipWith (mulB wb) c rows->r.length=L:=by
 intro r h;obtain ⟨i,hi,rfl⟩:=List.mem_iff_getElem.1 h;rw [List.getElem_zipWith];rw [mulB_len _ _ _ (by rw [hr _ (List.getElem_mem ..)];exact hd)];exact hr _ (List.getElem_mem ..)
theorem dotV_len {wb:Int} {L:Nat} (hd:L % wN wb=0) {c:List Int} {rows:List (List Int)} (hr: ∀r,r∈rows->r.length=L):(dotV L wb c rows).length=L:=sumB_length _ (zip_len hd hr)
theorem dot_ev (wb:Int) (L:Nat) (hL:L<=1000000) (hd:L % wN wb=0) (c:List Int) (rows:List (List Int)) (h0:0<rows.length) (hc:c.length=rows.length) (hn:rows.length<=1000) (hr: ∀r,r∈rows->r.length=L):Ev (fun k=>dotB k wb c rows) (dotV L wb c rows,0):=by
 have hall:rows.all (evB wb)=true:=by
  rw [List.all_eq_true];intro r h;unfold evB;rw [hr r h,hd];rfl
 refine Ev.congr (f:=fun k=>aKz.f k (List.zipWith (mulB wb) c rows)) (fun k=>by unfold dotB;rw [if_pos hall]) ?_;exact sum_ev _ L (by omega) (by simp;omega) (by simp;omega) (zip_len hd hr)
theorem parl_ev (wb : Int) (L : Nat) (hL : L <= 1000000) (hd : L % wN wb = 0) (data : List (List Int)) (h0 : 0 < data.length) (hn : data.length <= 1000) (hr : ∀ r, r ∈ data -> r.length = L) :
  ∀(rs acc:List (List Int)),(∀r,r∈rs->r.length=data.length)->Ev (fun k=>aCz.l k wb data rs acc) (acc++rs.map (fun c=>dotV L wb c data),0)
 | [],acc,_=>by
  simp only [aCz.l,List.map_nil,List.append_nil];exact Ev.now _
 |row::rs,acc,hc=>by
  have h1:=dot_ev wb L hL hd row data h0 (hc row (List.mem_cons_self ..)) hn hr;have h2:=parl_ev wb L hL hd data h0 hn hr rs (acc++ [dotV L wb row data]) (fun r h=>hc r (List.mem_cons_of_mem _ h));simp only [aCz.l];refine Ev.bind h1 ?_;rw [List.append_assoc] at h2
  simpa using h2
def parV (L:Nat) (p:Int) (K M:Nat) (data:List (List Int)):List (List Int):=(parM p K M).map fun c=>dotV L (pbits p) c data
theorem par_ev (p : Int) (K M L : Nat) (data : List (List Int)) (hmay : aJz.f p (K : Int) (M : Int) = some true) (hK : data.length = K) (hL : L <= 1000000) (hd : L % wN (pbits p) = 0) (hr : ∀ r, r ∈ data -> r.length = L) :
  Ev (fun k=>aCz.f k p (K:Int) (M:Int) data) (parV L p K M data,0):=by
 obtain ⟨p1,p2,k1,k2,m1,m2⟩:=cJz hmay;have hgd:=dZz p K M (by omega) (by omega) (by omega) (by omega)
 have hs:aCz.small data=true:=by
  simp only [aCz.small,Bool.and_eq_true,decide_eq_true_eq,List.all_eq_true];exact ⟨by omega,fun r h=>by rw [hr r h];exact hL⟩
 have h1:=parl_ev (pbits p) L hL hd data (by omega) (by omega) hr (parM p K M) [] (fun r h=>by rw [(hgd.1 r h).1,hK]);refine Ev.congr (fun k=> ?_) h1;unfold aCz.f;rw [hmay,Option.bind_some,if_pos rfl,if_pos (by omega),if_pos hs,Int.toNat_natCast,Int.toNat_natCast]
def unitN (p:Int):Nat:=if p<=2 then 8 else if p<=4 then 16 else 1
def aheadN (p:Int):Nat:=if p=5 then 4 else 0
theorem rule_eq {p:Int} (h1:1<=p) (h2:p<=6) (k m:Int):cpz.f p k m=some ((unitN p:Int),(aheadN p:Int)):=by
 have:p=1\/p=2\/p=3\/p=4\/p=5\/p=6:=by omega
 rcases this with rfl|rfl|rfl|rfl|rfl|rfl<;>rfl
theorem w64 {x:Int} (h0: -1<=x) (h1:x<1000000000):wrap64 x=x:=by unfold wrap64;omega
theorem unitN_bd (p:Int):1<=unitN p/\unitN p<=16:=by unfold unitN;split<;>(try split)<;>omega
theorem aheadN_bd (p:Int):aheadN p<=4:=by unfold aheadN;split<;>omega
def sizeN (p:Int) (K n:Nat):Nat:=unitN p*max ((n+aheadN p+unitN p*K - 1) / (unitN p*K)) 1
theorem sizeN_le (p:Int) (K n:Nat) (hK:1<=K) (hK2:K<=8) (hn:n<=4096):sizeN p K n<=80000:=by
 have hu:=unitN_bd p;have ha:=aheadN_bd p
 have h1:(n+aheadN p+unitN p*K - 1) / (unitN p*K)<=4300:=by
  have h2:unitN p*K<=16*8:=Nat.mul_le_mul hu.2 hK2;exact Nat.le_trans (Nat.div_le_self _ _) (by omega)
 unfold sizeN;exact Nat.le_trans (Nat.mul_le_mul hu.2 (show max ((n+aheadN p+unitN p*K - 1) / (unitN p*K)) 1<=4300 by omega)) (by omega)
theorem size_ev (p:Int) (K M n:Nat) (hmay:aJz.f p (K:Int) (M:Int)=some true) (hn:n<=4096):Ev (fun k=>a6z.f k p (K:Int) (M:Int) (n:Int)) ((sizeN p K n:Int),0):=by
 obtain ⟨p1,p2,k1,k2,m1,m2⟩:=cJz hmay;have hu:=unitN_bd p;have ha:=aheadN_bd p;have hup:unitN p*K<=16*8:=Nat.mul_le_mul hu.2 (by omega);have hu1:1<=unitN p*K:=Nat.mul_pos hu.1 (by omega);refine Ev.of (fun k=>a6z.mono _ _ _ _ k) (k:=1) ?_;unfold a6z.f;rw [hmay,Option.bind_some,if_pos rfl,show decide ((n:Int)<0)=false by simp];rw [a6z.j0];rw [if_neg (by decide),if_neg (by omega),rule_eq p1 p2,Option.bind_some]
 have w1:wrap64 ((unitN p:Int)*(K:Int))=((unitN p*K:Nat):Int):=by
  rw [<-Int.natCast_mul];unfold wrap64;omega
 dsimp only;rw [w1,if_neg (by omega)]
 have w2:wrap64 (wrap64 (wrap64 ((n:Int)+(aheadN p:Int))+((unitN p*K:Nat):Int)) - 1)=((n+aheadN p+unitN p*K - 1:Nat):Int):=by
  generalize unitN p*K=s at hup hu1|-;generalize aheadN p=a at ha|-;rw [w64 (x:=(n:Int)+(a:Int)) (by omega) (by omega),w64 (x:=(n:Int)+(a:Int)+(s:Int)) (by omega) (by omega),w64 (x:=(n:Int)+(a:Int)+(s:Int) - 1) (by omega) (by omega)];omega
 rw [w2,show Int.tdiv ((n+aheadN p+unitN p*K - 1:Nat):Int) ((unitN p*K:Nat):Int)=(((n+aheadN p+unitN p*K - 1) / (unitN p*K):Nat):Int) from (Int.ofNat_tdiv _ _).symm];have hle:=sizeN_le p K n (by omega) (by omega) hn;unfold sizeN at hle|-;have hq:(n+aheadN p+unitN p*K - 1) / (unitN p*K)<=4300:=Nat.le_trans (Nat.div_le_self _ _) (by omega);generalize (n+aheadN p+unitN p*K - 1) / (unitN p*K)=q at hle hq|-
 have w3:mx (wrap64 (q:Int)) 1=((max q 1:Nat):Int):=by
  rw [show wrap64 (q:Int)=(q:Int) by unfold wrap64;omega];unfold mx;split<;>omega
 rw [w3, <-Int.natCast_mul];rw [show wrap64 ((unitN p*max q 1:Nat):Int)=((unitN p*max q 1:Nat):Int) by unfold wrap64;omega]
theorem parV_len (L:Nat) (p:Int) (K M:Nat) (data:List (List Int)) (hmay:aJz.f p (K:Int) (M:Int)=some true):(parV L p K M data).length=M:=by
 obtain ⟨p1,p2,k1,k2,m1,m2⟩:=cJz hmay;unfold parV;rw [List.length_map,(dZz p K M (by omega) (by omega) (by omega) (by omega)).2]
theorem u8_xor (a b:Nat) (ha:a<256) (hb:b<256):Go.bits .xor .u8 (a:Int) (b:Int)=((a^^^b:Nat):Int):=by
 have h:a^^^b<2^8:=Nat.xor_lt_two_pow ha hb;have e: ∀x:Nat,x<256->(BitVec.ofInt 8 (x:Int)).toNat=x:=fun x hx=>by rw [BitVec.toNat_ofInt];omega
 show IntKind.u8.wrap ((BitVec.ofInt 8 (a:Int)^^^BitVec.ofInt 8 (b:Int)).toNat:Int)=_;rw [BitVec.toNat_xor,e a ha,e b hb];show ((a^^^b:Nat):Int) % 256=_;omega
def isB (l:List Int):Prop:= ∀x,x∈l->0<=x/\x<=255
theorem isB_of (l:List Int) (h:isB l): ∃n:List Nat,l=n.map (fun x:Nat=>(x:Int))/\ ∀x,x∈n->x<256:=by
 refine ⟨l.map Int.toNat,?_,fun x hx=> ?_⟩
 ·rw [List.map_map]
  conv=>lhs;rw [<-List.map_id l]
  exact List.map_congr_left (fun x hx=>by have:=h x hx;simp;omega)
 ·obtain ⟨y,hy,rfl⟩:=List.mem_map.1 hx;have:=h y hy;omega
def xorN (a b:List Nat):List Nat:=List.zipWith (fun x y=>x^^^y) a b
theorem xorB_nat: ∀(a b:List Nat),(∀x,x∈a->x<256)->(∀x,x∈b->x<256)->xorB (a.map fun x:Nat=>(x:Int)) (b.map fun x:Nat=>(x:Int))=(xorN a b).map fun x:Nat=>(x:Int)
 | [],_,_,_=>by simp [xorB,xorN]
 |_::_, [],_,_=>by simp [xorB,xorN]
 |x::a,y::b,ha,hb=>by
  have h:=xorB_nat a b (fun q hq=>ha q (List.mem_cons_of_mem _ hq)) (fun q hq=>hb q (List.mem_cons_of_mem _ hq))
  unfold xorB xorN at *
  simp only [List.map_cons,List.zipWith_cons_cons];rw [h,u8_xor x y (ha x (List.mem_cons_self ..)) (hb y (List.mem_cons_self ..))]
theorem xorN_lt {w:Nat} : ∀(a b:List Nat),(∀x,x∈a->x<2^w)->(∀x,x∈b->x<2^w)-> ∀x,x∈xorN a b->x<2^w:=by
 intro a b ha hb x hx;unfold xorN at hx;obtain ⟨i,hi,rfl⟩:=List.mem_iff_getElem.1 hx;rw [List.getElem_zipWith];exact Nat.xor_lt_two_pow (ha _ (List.getElem_mem ..)) (hb _ (List.getElem_mem ..))
def pairN:List Nat->List Nat
 |x::y::r=>(x+256*y)::pairN r
 |_=> []
def castN (l:List Nat):List Int:=l.map fun x:Nat=>(x:Int)
theorem eNz (x y:Nat): ∀(l:List Nat),l.length % 2=0->pairN (l++ [x,y])=pairN l++ [x+256*y]
 | [],_=>rfl
 | [_],h=>by simp at h
 |u::v::l,h=>by
  have ih:=eNz x y l (by simp at h;omega);show (u+256*v)::pairN (l++ [x,y])=(u+256*v)::pairN l++ [x+256*y];rw [ih];rfl
theorem eyz: ∀(l:List Nat),(pairN l).length=l.length / 2
 | [] =>rfl
 | [_] =>by simp [pairN]
 |u::v::l=>by
  have ih:=eyz l;show (pairN l).length+1=(l.length+2) / 2;omega
theorem wTo_two (n:List Nat) (hb: ∀x,x∈n->x<256): ∀j,2*j<=n.length->wTo 2 (castN n) (2*j)=castN (pairN (n.take (2*j)))++List.replicate (n.length / 2 - j) 0
 |0,_=>by
  show wTo 2 (castN n) 0=_;unfold wTo castN;simp [pairN]
 |j+1,hj=>by
  have ih:=wTo_two n hb j (by omega);obtain ⟨x,hx⟩: ∃x,n[2*j]?=some x:=⟨_,List.getElem?_eq_getElem (by omega)⟩;obtain ⟨y,hy⟩: ∃y,n[2*j+1]?=some y:=⟨_,List.getElem?_eq_getElem (by omega)⟩;have hx8:=hb x (List.mem_of_getElem? hx);have hy8:=hb y (List.mem_of_getElem? hy);have gx:(castN n).getD (2*j) 0=(x:Int):=by unfold castN;rw [List.getD_eq_getElem?_getD,List.getElem?_map,hx];rfl
  have gy:(castN n).getD (2*j+1) 0=(y:Int):=by unfold castN;rw [List.getD_eq_getElem?_getD,List.getElem?_map,hy];rfl
  have hpl:(castN (pairN (n.take (2*j)))).length=j:=by
   unfold castN;rw [List.length_map,eyz,List.length_take];omega
  have e1:wTo 2 (castN n) (2*j+1)=castN (pairN (n.take (2*j)))++(x:Int)::List.replicate (n.length / 2 - (j+1)) 0:=by
   have e:wTo 2 (castN n) (2*j+1)=if (2*j) % 2=0 then (wTo 2 (castN n) (2*j)).set ((2*j) / 2) (wrap64 ((castN n).getD (2*j) 0)) else (wTo 2 (castN n) (2*j)).set ((2*j) / 2) (wrap64 ((wTo 2 (castN n) (2*j)).getD ((2*j) / 2) 0+wrap64 (256*wrap64 ((castN n).getD (2*j) 0)))):=rfl
   rw [e,if_pos (by omega),ih,gx,show 2*j / 2=j by omega,w64 (by omega) (by omega),List.set_append_right _ _ (by omega),hpl,Nat.sub_self,show n.length / 2 - j=(n.length / 2 - (j+1))+1 by omega,List.replicate_succ,List.set_cons_zero]
  have e2:wTo 2 (castN n) (2*j+1+1)=if (2*j+1) % 2=0 then (wTo 2 (castN n) (2*j+1)).set ((2*j+1) / 2) (wrap64 ((castN n).getD (2*j+1) 0)) else (wTo 2 (castN n) (2*j+1)).set ((2*j+1) / 2) (wrap64 ((wTo 2 (castN n) (2*j+1)).getD ((2*j+1) / 2) 0+wrap64 (256*wrap64 ((castN n).getD (2*j+1) 0)))):=rfl
  have hgd:(castN (pairN (n.take (2*j)))++(x:Int)::List.replicate (n.length / 2 - (j+1)) 0).getD j 0=(x:Int):=by
   rw [List.getD_eq_getElem?_getD,List.getElem?_append_right (by omega),hpl,Nat.sub_self];rfl
  rw [show 2*(j+1)=2*j+1+1 by omega,e2,if_neg (by omega),e1,gy,show (2*j+1) / 2=j by omega,hgd,w64 (x:=(y:Int)) (by omega) (by omega),w64 (x:=256*(y:Int)) (by omega) (by omega),w64 (x:=(x:Int)+256*(y:Int)) (by omega) (by omega),List.set_append_right _ _ (by omega),hpl,Nat.sub_self,List.set_cons_zero]
  have e3:n.take (2*j+1+1)=n.take (2*j)++ [x,y] :=by
   rw [List.take_add_one,List.take_add_one,hx,hy];simp
  rw [e3,eNz x y _ (by rw [List.length_take];omega)];unfold castN;simp
theorem words16 (n:List Nat) (hb: ∀x,x∈n->x<256) (he:n.length % 2=0):wordsF 16 (castN n)=castN (pairN n):=by
 unfold wordsF;have h:=wTo_two n hb (n.length / 2) (by omega);rw [show wN 16=2 from rfl,show (castN n).length=2*(n.length / 2) by unfold castN;rw [List.length_map];omega,h,Nat.sub_self,List.take_of_length_le (by omega)];simp
theorem wTo_one (b:List Int) (hb: ∀x,x∈b->0<=x/\x<=255): ∀i,i<=b.length->wTo 1 b i=b.take i++List.replicate (b.length - i) 0
 |0,_=>by unfold wTo;simp
 |i+1,hi=>by
  have ih:=wTo_one b hb i (by omega);obtain ⟨x,hx⟩: ∃x,b[i]?=some x:=⟨_,List.getElem?_eq_getElem (by omega)⟩;have hxb:=hb x (List.mem_of_getElem? hx);have hg:b.getD i 0=x:=by rw [List.getD_eq_getElem?_getD,hx];rfl
  have e:wTo 1 b (i+1)=if i % 1=0 then (wTo 1 b i).set (i / 1) (wrap64 (b.getD i 0)) else (wTo 1 b i).set (i / 1) (wrap64 ((wTo 1 b i).getD (i / 1) 0+wrap64 (256*wrap64 (b.getD i 0)))):=rfl
  rw [e,if_pos (Nat.mod_one i),ih,hg,Nat.div_one,w64 (by omega) (by omega),List.set_append_right _ _ (by simp;omega),List.take_add_one,hx];rw [show i - (b.take i).length=0 by simp;omega,show b.length - i=(b.length - (i+1))+1 by omega,List.replicate_succ];simp
def mapN (f:Nat->Nat) (l:List Nat):List Nat:=l.map f
def mN (wb c:Int) (x:Nat):Nat:=(gmul wb c (x:Int)).toNat
theorem mN_cast {wb:Int} (hw:wb=8\/wb=16) (c:Int) (l:List Nat):(castN l).map (gmul wb c)=castN (mapN (mN wb c) l):=by
 unfold castN mapN;rw [List.map_map,List.map_map];refine List.map_congr_left (fun x _=> ?_);have:=(bHz hw c (x:Int)).1;show gmul wb c (x:Int)=((gmul wb c (x:Int)).toNat:Int);omega
theorem fsize8:fsize 8=256:=rfl
theorem fsize16:fsize 16=65536:=rfl
theorem mN_lt8 (c:Int) (x:Nat):mN 8 c x<256:=by
 have:=bHz (.inl rfl:(8:Int)=8\/(8:Int)=16) c (x:Int);rw [fsize8] at this;unfold mN;omega
def flatN:List Nat->List Nat
 | [] => []
 |x::r=>(x % 256)::(x / 256 % 256)::flatN r
theorem bytes16: ∀(l:List Nat),bytesF 16 (castN l)=castN (flatN l)
 | [] =>rfl
 |x::r=>by
  have h3:bytesF 16 ((x:Int)::castN r)=byteF 16 (x:Int)++bytesF 16 (castN r):=by unfold bytesF;rw [List.flatMap_cons]
  show bytesF 16 ((x:Int)::castN r)=((x % 256:Nat):Int)::((x / 256 % 256:Nat):Int)::castN (flatN r);rw [h3,bytes16 r];show [(x:Int) % 256,(x:Int) / 256 % 256] ++_=_;simp
theorem bytes8: ∀(l:List Nat),(∀x,x∈l->x<256)->bytesF 8 (castN l)=castN l
 | [],_=>rfl
 |x::r,h=>by
  have h3:bytesF 8 ((x:Int)::castN r)=byteF 8 (x:Int)++bytesF 8 (castN r):=by unfold bytesF;rw [List.flatMap_cons]
  have hx:=h x (List.mem_cons_self ..);show bytesF 8 ((x:Int)::castN r)=(x:Int)::castN r;rw [h3,bytes8 r (fun q hq=>h q (List.mem_cons_of_mem _ hq))];show [(x:Int) % 256] ++_=_;rw [show (x:Int) % 256=(x:Int) by omega];rfl
theorem flatN_lt: ∀(a:List Nat) (x:Nat),x∈flatN a->x<256
 | [],_,h=>by simp [flatN] at h
 |u::a,x,h=>by
  rcases List.mem_cons.1 (show x∈(u % 256)::(u / 256 % 256)::flatN a from h) with rfl|h
  ·omega
  ·rcases List.mem_cons.1 h with rfl|h
   ·omega
   ·exact flatN_lt a x h
def mulN (wb c:Int) (n:List Nat):List Nat:=if wb=8 then mapN (mN 8 c) n else flatN (mapN (mN 16 c) (pairN n))
theorem mapN_lt8 (c:Int) (n:List Nat): ∀x,x∈mapN (mN 8 c) n->x<256:=by
 intro x hx;obtain ⟨y, -,rfl⟩:=List.mem_map.1 hx;exact mN_lt8 c y
theorem mulN_lt (wb c:Int) (n:List Nat): ∀x,x∈mulN wb c n->x<256:=by
 unfold mulN;split
 ·exact mapN_lt8 c n
 ·exact flatN_lt _
theorem words8 (n:List Nat) (hb: ∀x,x∈n->x<256):wordsF 8 (castN n)=castN n:=by
 unfold wordsF
 rw [show wN 8=1 from rfl,wTo_one (castN n) (fun x hx=>by
  obtain ⟨y,hy,rfl⟩:=List.mem_map.1 hx;have:=hb y hy
  omega) _ (Nat.le_refl _),Nat.sub_self,List.take_length]
 simp
theorem mulB_nat {wb:Int} (hw:wb=8\/wb=16) (c:Int) (n:List Nat) (hb: ∀x,x∈n->x<256) (he:n.length % wN wb=0):mulB wb c (castN n)=castN (mulN wb c n):=by
 unfold mulB mulN;rcases hw with rfl|rfl
 ·rw [words8 n hb,mN_cast (.inl rfl),bytes8 _ (mapN_lt8 c n),if_pos rfl]
 ·rw [words16 n hb he,mN_cast (.inr rfl),bytes16,if_neg (by decide)]
theorem eqb_loop (x y:List Int) (n:Nat) (hx:x.length=n) (hy:y.length=n) (hn:n<=100000000): ∀(m i:Nat),i+m=n->Ev (fun k=>aPz.l0 k x y (n:Int) (i:Int)) (decide (x.drop i=y.drop i)):=by
 intro m
 induction m with
 |zero=>
  intro i hi;refine Ev.step (f:=fun _=>some true) (fun k=> ?_) ?_
  ·rw [aPz.l0,if_neg (by omega)]
  ·rw [List.drop_of_length_le (by omega),List.drop_of_length_le (by omega)];exact Ev.now _
 |succ m ih=>
  intro i hi;have hix:i<x.length:=by omega
  have hiy:i<y.length:=by omega
  have e1:rd x (i:Int)=x[i] :=by unfold rd;rw [Int.toNat_natCast,List.getD_eq_getElem?_getD,List.getElem?_eq_getElem hix];rfl
  have e2:rd y (i:Int)=y[i] :=by unfold rd;rw [Int.toNat_natCast,List.getD_eq_getElem?_getD,List.getElem?_eq_getElem hiy];rfl
  have d1:=List.drop_eq_getElem_cons hix;have d2:=List.drop_eq_getElem_cons hiy;by_cases h:x[i] =y[i]
  ·refine Ev.step (f:=fun k=>aPz.l0 k x y (n:Int) ((i+1:Nat):Int)) (fun k=> ?_) ?_
   ·rw [aPz.l0,if_pos (by omega),if_pos (by omega),if_pos (by omega),if_pos (by omega),e1,e2,if_pos h,dFz (by omega)]
   ·have:=ih (i+1) (by omega);rw [d1,d2];rw [show decide (x[i] ::x.drop (i+1)=y[i] ::y.drop (i+1))=decide (x.drop (i+1)=y.drop (i+1)) by rw [h];simp only [List.cons.injEq,true_and]];exact this
  ·refine Ev.step (f:=fun _=>some false) (fun k=> ?_) ?_
   ·rw [aPz.l0,if_pos (by omega),if_pos (by omega),if_pos (by omega),if_pos (by omega),e1,e2,if_neg h]
   ·rw [d1,d2,decide_eq_false (by intro hh;injection hh with h1 _;exact h h1)];exact Ev.now _
theorem eqb_ev (x y:List Int) (hx:x.length<=100000000):Ev (fun k=>aPz.f k x y) (decide (x=y)):=by
 by_cases hl:x.length=y.length
 ·have h:=eqb_loop x y x.length rfl hl.symm hx x.length 0 (by omega);refine Ev.congr (fun k=> ?_) (by simpa using h);unfold aPz.f;rw [if_pos (by omega)]
 ·refine Ev.congr (f:=fun _=>some false) (fun k=> ?_) ?_
  ·unfold aPz.f;rw [if_neg (by omega)]
  ·rw [decide_eq_false (by rintro rfl;exact hl rfl)];exact Ev.now _
theorem eqRows_dec: ∀(p q:List (List Int)),(∀x,x∈p->x.length<=100000000)->Ev (fun k=>eqRows k p q) (decide (p=q))
 | [], [],_=>by simp only [eqRows];exact Ev.now _
 | [],_::_,_=>by simp only [eqRows];exact Ev.now _
 |_::_, [],_=>by simp only [eqRows];exact Ev.now _
 |x::xs,y::ys,h=>by
  simp only [eqRows];refine Ev.bind (eqb_ev x y (h x (List.mem_cons_self ..))) ?_;by_cases hxy:x=y
  ·refine Ev.congr (f:=fun k=>eqRows k xs ys) (fun k=>by rw [if_pos (decide_eq_true hxy)]) ?_;have:=eqRows_dec xs ys (fun z hz=>h z (List.mem_cons_of_mem _ hz))
   simpa [hxy] using this
  ·refine Ev.congr (f:=fun _=>some false) (fun k=>by rw [decide_eq_false hxy,if_neg (by decide)]) ?_;rw [decide_eq_false (by intro hh;injection hh with h1 _;exact hxy h1)];exact Ev.now _
theorem eqFunc_dec (p q:List (List Int)) (hl:p.length<=1000000) (h: ∀x,x∈p->x.length<=100000000):Ev (fun k=>eqFunc k p q) (decide (p=q)):=by
 by_cases hpq:p.length=q.length
 ·refine Ev.congr (fun k=> ?_) (eqRows_dec p q h);unfold eqFunc;rw [if_pos hpq,if_pos hl]
 ·refine Ev.congr (f:=fun _=>some false) (fun k=> ?_) ?_
  ·unfold eqFunc;rw [if_neg hpq]
  ·rw [decide_eq_false (by rintro rfl;exact hpq rfl)];exact Ev.now _
theorem ver_dec (p : Int) (K M L : Nat) (data Q : List (List Int)) (hmay : aJz.f p (K : Int) (M : Int) = some true) (hK : data.length = K) (hL : L <= 1000000) (hd : L % wN (pbits p) = 0) (hr : ∀ r, r ∈ data -> r.length = L) (hQ : Q.length = M) :
  Ev (fun k=>bjz.f k p (K:Int) (M:Int) (data++Q)) (decide (parV L p K M data=Q)):=by
 have h1:=par_ev p K M L data hmay hK hL hd hr;have hl:=parV_len L p K M data hmay;obtain ⟨p1,p2,k1,k2,m1,m2⟩:=cJz hmay
 have h2:=eqFunc_dec (parV L p K M data) Q (by omega) (fun x hx=>by
  unfold parV at hx;obtain ⟨c, -,rfl⟩:=List.mem_map.1 hx
  rw [dotV_len hd hr];omega)
 have ht:(data++Q).take K=data:=by rw [<-hK,List.take_left'];rfl
 have hdr:(data++Q).drop K=Q:=by rw [<-hK,List.drop_left'];rfl
 refine Ev.congr (f:=fun k=>(aCz.f k p (K:Int) (M:Int) data).bind fun t=>if t.2=0 then eqFunc k t.1 Q else some false) (fun k=> ?_) ?_
 ·unfold bjz.f;rw [hmay,Option.bind_some,if_pos rfl,if_pos (by rw [List.length_append,hK,hQ];omega),Int.toNat_natCast,ht,hdr]
 ·refine Ev.bind h1 ?_;refine Ev.congr (fun k=> ?_) h2;rw [if_pos rfl]
theorem elz: ∀b,b<13->Go.bits .xor .i64 0 ((b:Nat):Int)=(b:Int):=by decide+kernel
theorem foldB_nat: ∀(A:List (List Nat)) (a:List Nat),(∀x,x∈a->x<256)->(∀r,r∈A-> ∀x,x∈r->x<256)->(A.map castN).foldl xorB (castN a)=castN (A.foldl xorN a)
 | [],_,_,_=>rfl
 |r::A,a,ha,hA=>by
  have hr:=hA r (List.mem_cons_self ..);have ih:=foldB_nat A (xorN a r) (xorN_lt (w:=8) a r ha hr) (fun q hq=>hA q (List.mem_cons_of_mem _ hq));show (A.map castN).foldl xorB (xorB (castN a) (castN r))=_;rw [show xorB (castN a) (castN r)=castN (xorN a r) from xorB_nat a r ha hr,ih];rfl
def dotN (S:Nat) (wb:Int) (c:List Int) (P:List (List Nat)):List Nat:=(List.zipWith (mulN wb) c P).foldl xorN (List.replicate S 0)
theorem zipM_nat {wb:Int} (hw:wb=8\/wb=16): ∀(c:List Int) (P:List (List Nat)),(∀r,r∈P->(∀x,x∈r->x<256)/\r.length % wN wb=0)->List.zipWith (mulB wb) c (P.map castN)=(List.zipWith (mulN wb) c P).map castN
 | [],_,_=>by simp
 |_::_, [],_=>by simp
 |x::c,r::P,h=>by
  have hr:=h r (List.mem_cons_self ..);simp only [List.map_cons,List.zipWith_cons_cons];rw [mulB_nat hw x r hr.1 hr.2,zipM_nat hw c P (fun q hq=>h q (List.mem_cons_of_mem _ hq))]
theorem dotV_nat {wb:Int} (hw:wb=8\/wb=16) (S:Nat) (c:List Int) (P:List (List Nat)) (h: ∀r,r∈P->(∀x,x∈r->x<256)/\r.length % wN wb=0):dotV S wb c (P.map castN)=castN (dotN S wb c P):=by
 unfold dotV sumB dotN;rw [zipM_nat hw c P h,show (List.replicate S (0:Int))=castN (List.replicate S 0) by unfold castN;simp];refine foldB_nat _ _ (fun x hx=>by rw [List.eq_of_mem_replicate hx];omega) (fun r hr x hx=> ?_);obtain ⟨i,hi,rfl⟩:=List.mem_iff_getElem.1 hr;rw [List.getElem_zipWith] at hx;exact mulN_lt _ _ _ x hx
def bSz.l (k:Nat) (l:List (List Int)) (a:Int):List Int->List Int->Option (List Int)
 | [],acc=>some acc
 |p::ps,acc=>(b3z.f k l a p).bind fun b=>bSz.l k l a ps (if b=true then acc++ [p] else acc)
def bSz.f (k:Nat) (l0:List (List Int)) (a1:Int):Option (List Int):=(bJz.f k).bind fun ps=>if ps.length<=1000 then bSz.l k l0 a1 ps [] else none
def trial_Pick.f (k:Nat) (l0:List (List Int)) (a1:Int):Option (Int×Int):=(bSz.f k l0 a1).bind fun t154=>(if (t154.length:Int)=0 then (some (0,4)) else (if (t154.length:Int)=1 then (if 0<(t154.length:Int) then (some (rd t154 0,0)) else (none)) else (some (0,6))))
end Go.Proofs.Xc
end
