-- Joined texts of this work (wip/tools/bundle.py).
import Derived.OrdersIn
import Derived.Test.YtpdakdcmahlghaaGreatBReconUpdates15
set_option maxHeartbeats 4000000
set_option maxRecDepth 100000
set_option linter.unusedVariables false
set_option linter.unusedSimpArgs false
section
namespace Go.Proofs.Xc
open Go.RowKit Go.Proofs.Pw Go.Proofs.Pl Go.Proofs.Pm
attribute [local go_sem] a7z a8z bjz bkz aZz a0z a9z baz
def sclRow (wb c:Int) (j:Nat) (row:List Int):List Int:=row.set j (gmul wb (row.getD j 0) c)
def sclTo (wb c:Int) (from_ j:Nat) (rows:List (List Int)) (i:Nat):List (List Int):=rows.take from_++(((rows.drop from_).take i).map (sclRow wb c j)++(rows.drop from_).drop i)
theorem sclTo_zero (wb c:Int) (from_ j:Nat) (rows:List (List Int)):sclTo wb c from_ j rows 0=rows:=by simp [sclTo]
theorem sclTo_at (wb c:Int) (from_ j:Nat) (rows:List (List Int)) (i:Nat) (row:List Int) (hf:from_<=rows.length) (h:rows[from_+i]?=some row):(sclTo wb c from_ j rows i)[from_+i]?=some row:=by
 have hi:=(Zk h).1;unfold sclTo;rw [List.getElem?_append_right (by simp;omega),List.length_take,Nat.min_eq_left hf,Nat.add_sub_cancel_left,List.getElem?_append_right (by simp;omega)];simp only [List.length_map,List.length_take,List.length_drop,List.getElem?_drop];rw [show from_+(i+(i - min i (rows.length - from_)))=from_+i by omega];exact h
theorem sclTo_step (wb c:Int) (from_ j:Nat) (rows:List (List Int)) (i:Nat) (row:List Int) (hf:from_<=rows.length) (h:rows[from_+i]?=some row):(sclTo wb c from_ j rows i).set (from_+i) (sclRow wb c j row)=sclTo wb c from_ j rows (i+1):=by
 have hi:=(Zk h).1;have h2:(rows.drop from_)[i]?=some row:=by rw [List.getElem?_drop];exact h
 obtain ⟨h3,h4⟩:=Zk h2;unfold sclTo;rw [List.set_append_right _ _ (by simp;omega),List.length_take,Nat.min_eq_left hf,Nat.add_sub_cancel_left,List.set_append_right _ _ (by simp;omega),List.length_map,List.length_take,List.length_drop,show i - min i (rows.length - from_)=0 by omega,List.drop_eq_getElem_cons h3,Zh,List.take_add_one,h2,List.map_append,List.append_assoc];rfl
theorem e2z (wb c:Int) (from_ j:Nat) (rows:List (List Int)) (i L:Nat) (h: ∀r,r∈rows->r.length=L): ∀r,r∈sclTo wb c from_ j rows i->r.length=L:=by
 intro r hr;unfold sclTo at hr;rcases List.mem_append.1 hr with hr|hr
 ·exact h r (List.mem_of_mem_take hr)
 ·rcases List.mem_append.1 hr with hr|hr
  ·obtain ⟨q,hq,rfl⟩:=List.mem_map.1 hr;simp only [sclRow,List.length_set];exact h q (List.mem_of_mem_drop (List.mem_of_mem_take hq))
  ·exact h r (List.mem_of_mem_drop (List.mem_of_mem_drop hr))
def sclF (wb c:Int) (from_ j:Nat) (rows:List (List Int)):List (List Int):=sclTo wb c from_ j rows (rows.length - from_)
theorem scale.calls (g o : Nat) (wb : Int) (S0 S : Nat -> Prop) (n co L from_ j : Nat) (c : Int) (bs : List (Nat × Nat)) (rows : List (List Int)) (W : World) (hw : wb = 8 \/ wb = 16) (hF : Fd W g wb (fpoly wb) S) (hx : ∀ k, S0 k -> S k) (hS : ∀ k, S k -> k < W.heap.size)
  (hM:Mx W o bs rows) (hSb: ∀(i b c:Nat),bs[i]?=some (b,c)->S0 b) (hn:rows.length=n) (hco:n<=co) (hnn:n<=100) (hL: ∀r,r∈rows->r.length=L) (hLL:L<=100) (hj:j<L) (hf:from_<=n) (hfn:from_<n):
  Calls Tryz.prog 115 #[.agg #[.pointer (some ⟨g,0,none⟩), .slice (some ⟨o,0,none⟩) n co], .int .i64 (from_:Int), .int .i64 (j:Int), .int .i64 c] W fun e w'=>e= .returned (.tuple #[])/\Mx w' o bs (sclF wb c from_ j rows)/\Fd w' g wb (fpoly wb) S/\BS W w' g S0:=by
 have HW:=Za hw;have HF:=Za (hF.alloc (.cells #[.pointer (some ⟨g,0,none⟩), .slice (some ⟨o,0,none⟩) n co] 146));have HX:=Za hx;have HS:=Za hS;have HM:=Za (show Mx (W.alloc (.cells #[.pointer (some ⟨g,0,none⟩), .slice (some ⟨o,0,none⟩) n co] 146)) o bs (sclTo wb c from_ j rows 0) by rw [sclTo_zero];exact hM.alloc _);have HSB:=Za hSb;have HL:=Za hL;have HN:=Za hn;have hbx:(W.alloc (.cells #[.pointer (some ⟨g,0,none⟩), .slice (some ⟨o,0,none⟩) n co] 146)).heap[W.heap.size]?=some (.cells #[.pointer (some ⟨g,0,none⟩), .slice (some ⟨o,0,none⟩) n co] 146 (0,0)):=heap_alloc_new _ _;have HBX:=Za hbx;have HB:=Za (show BS W (W.alloc (.cells #[.pointer (some ⟨g,0,none⟩), .slice (some ⟨o,0,none⟩) n co] 146)) g S0 from BS.alloc (BS.refl _ _ _) _);have HGL:=Za hF.lt;have hb1:(W.alloc (.cells #[.pointer (some ⟨g,0,none⟩), .slice (some ⟨o,0,none⟩) n co] 146)).cell? ⟨W.heap.size,1,none⟩=some (.slice (some ⟨o,0,none⟩) n co):=(aaz hbx 1).trans rfl
 have f1:(0:Int)<=(from_:Int):=by omega
 have f2:(from_:Int)<=(n:Int):=by omega
 have f3: ¬co=from_:=by omega
 have f3': ¬from_=co:=by omega
 obtain ⟨nl,hnl⟩: ∃nl,n - from_=nl:=⟨_,rfl⟩;have HNL:=Za hnl;have f5:from_+nl=n:=by omega
 have HF5:=Za f5;have hnl100:nl<=100:=by omega
 clear f5;have j1:(0:Int)<=(j:Int):=by omega
 have j2:(j:Int)<(L:Int):=by omega
 clear hw hF hx hS hM hSb hL hn hbx;go_enter Tryz.func115,Tryz.ntmps115;go_wp2;generalize W.alloc (.cells #[.pointer (some ⟨g,0,none⟩), .slice (some ⟨o,0,none⟩) n co] 146)=w1 at HF HM HBX HB hb1|-;obtain ⟨fb,hfb⟩: ∃fb,fb=W.heap.size:=⟨_,rfl⟩;have HFB:=Za hfb;rw [<-hfb] at HBX hb1|-;clear hfb hnl hb1
 go_loopw [15] (fun i wr=> ∃k:Nat,k<=nl/\i= .int .i64 (k:Int)/\Aside0 (Mx wr o bs (sclTo wb c from_ j rows k))/\Aside0 (Fd wr g wb (fpoly wb) S)/\Aside0 (BS W wr g S0)/\Aside0 (wr.heap[fb]?=some (.cells #[.pointer (some ⟨g,0,none⟩), .slice (some ⟨o,0,none⟩) n co] 146 (0,0)))) (fun i _=>nl - (intOf i).toNat)
 case atStart=>exact ⟨0,Nat.zero_le _,rfl,HM,HF,HB,HBX⟩
 clear HM HF HB HBX;obtain ⟨k,hk,rfl,HM,HF,HB,HBX⟩:=hrel;by_cases hlt:k<nl
 ·obtain ⟨row,hrow⟩: ∃r,rows[from_+k]?=some r:=⟨_,Zf (by have:=HN.out;have:=HF5.out;omega)⟩;obtain ⟨⟨bi,ci⟩,hbi⟩: ∃q,bs[from_+k]?=some q:=⟨_,Zf (by have h1:=HM.out.len;have h2:=(Zk (sclTo_at wb c from_ j rows k row (by rw [HN.out];omega) hrow)).1;omega)⟩;have hat:=sclTo_at wb c from_ j rows k row (by rw [HN.out];omega) hrow;have hrl:=HL.out row (Zo hrow);obtain ⟨x,hx⟩: ∃x,row[j]?=some x:=⟨_,Zf (by omega)⟩;have hco1:wr.cell? ⟨o,from_+k,none⟩=some (.slice (some ⟨bi,0,none⟩) L ci):=by rw [HM.out.cIz hbi hat,hrl]
  have hci:wr.cell? ⟨bi,j,none⟩=some (.int .i64 x):=HM.out.c4z hbi hat hx;have hfi:=HM.out.froz_i hbi j;have hb0:wr.cell? ⟨fb,0,none⟩=some (.pointer (some ⟨g,0,none⟩)):=(aaz HBX.out 0).trans rfl;obtain ⟨gcs,hgcs⟩:=Fd.cells HF.out;have hng:=HM.out.ne_g hgcs;have HNG:=Za hng;have HBI:=Za hbi;have HAT:=Za hat
  have HST:=Za (show (sclTo wb c from_ j rows k).set (from_+k) (row.set j (gmul wb x c))=sclTo wb c from_ j rows (k+1) by
   rw [<-sclTo_step wb c from_ j rows k row (by rw [HN.out];omega) hrow];unfold sclRow
   rw [Zm,hx];rfl)
  have HFBI:=Za (show fb≠bi from fun e=>by
   have h1:=HX.out _ (HSB.out _ _ _ hbi);have h2:=HS.out _ h1;have h3:=HFB.out
   omega)
  have HMU:=Za (cOz.calls g S wb x c wr.drew HW.out HF.out.drew (fun k hk=>Zp (HS.out k hk) HB.out.size));have HCI:=Za (show∀w3,BB wr.drew w3 g->w3.cell? ⟨bi,j,none⟩=some (.int .i64 x)/\w3.frozen? ⟨bi,j,none⟩=false from fun w3 h=>⟨cFz h (a:=wr.drew) hci (hng.2 _ _ _ hbi),froz_bb h (a:=wr.drew) (p:=⟨bi,j,none⟩) (HM.out.lt_i hbi) hfi (hng.2 _ _ _ hbi)⟩);have k1:(0:Int)<=(k:Int):=by omega
  have k2:(k:Int)<(nl:Int):=by omega
  clear hrow hbi hat hrl hx hfi hgcs hng
  go_wp2_with fail
  refine clz (n:=12) (S:=fun w'=>w'.cell? ⟨fb,0,none⟩=some (.pointer (some ⟨g,0,none⟩))/\w'.cell? ⟨bi,j,none⟩=some (.int .i64 x)) (ds:= [9,11]) (bA 12 0) kr_ rfl rfl ⟨hb0,hci⟩ (fun hHeld=> ?_);refine pu_ 0 19 1 ?_;refine pu_ 1 20 3 ?_;refine pu_ 2 21 7 ?_;refine pu_ 4 23 23 ?_;refine pu_ 5 24 55 ?_;refine pu_ 6 25 119 ?_;refine pu_ 8 27 375 ?_;refine tk_ 3 22 383 hHeld ?_;refine tk_ 7 26 511 hHeld ?_;refine last_ (i:=9) (N:=some 28) (bA 12 1023) rfl rfl kr_ (by decide) (fun K hK=> ?_);refine goes_ Tryz.func103 kr_ rfl #[.pointer (some ⟨g,0,none⟩), .int .i64 x, .int .i64 c] (by rfl) rfl rfl am_ ?_
  with_reducible refine (HMU.out).mono ?_
  rintro e w3 ⟨rfl,q1,q2⟩;refine ⟨_,rfl,?_⟩;obtain ⟨r1,r2⟩:=HCI.out w3 q2;have Q1:=Za q1;have Q3:=Za (show BB wr w3 g from ⟨q2.os,q2.tape,q2.output,q2.size,q2.block⟩);clear q1 q2;refine hK.out _ _ ?_;clear hK K;refine norm_ (a':= ?_) ?_ ?_;rotate_left
  ·show Act.put _ (some 28) _=_;simp only [Act.put,Zg,Zh,Zi,i64_w,i32_w];rfl
  refine pu_ 10 29 2047 ?_;refine last_ (i:=11) (N:=none) (bA 12 4095) rfl rfl kr_ (by decide) (fun K hK=> ?_);refine skip_ (w1:= ?_) (by rfl) rfl ?_ ?_;rotate_left
  ·go_simp;rfl
  refine hK.out _ _ ?_;clear hK K;refine done_ kr_ ?_;have HM2:=Za ((HM.out.bb HNG.out Q3.out).set (j:=j) HBI.out HAT.out (gmul wb x c));rw [HST.out] at HM2;have HF2:=Za (Q1.out.set (q:=⟨bi,j,none⟩) (HX.out _ (HSB.out _ _ _ HBI.out)) (.int .i64 (gmul wb x c)));have HB2:=Za ((HB.out.trans (BS.of_bb Q3.out)).set (p:=⟨bi,j,none⟩) (.inl (HSB.out _ _ _ HBI.out)) (.int .i64 (gmul wb x c)));have HBX2:=Za (bHz ((Q3.out.block fb (aPz HBX.out) (by have:=HFB.out;have:=HGL.out;omega)).trans HBX.out) (show fb≠(⟨bi,j,none⟩:Addr).block from HFBI.out) (.int .i64 (gmul wb x c)));go_wp2;go_roundw
  case rel=>exact ⟨k+1,by omega,by go_num,HM2,HF2,HB2,HBX2⟩
  case measure=>have:=HF5.out;simp [intOf];omega
 ·obtain rfl:k=nl:=by omega
  have HE:=Za (show Mx wr o bs (sclF wb c from_ j rows) by unfold sclF;rw [HN.out,HNL.out];exact HM.out);go_wp2
  go_end0
  exact ⟨rfl,HE.out,HF.out,HB.out⟩
def swpRow (i j:Nat) (x:List Int):List Int:=(x.set i (x.getD j 0)).set j (x.getD i 0)
def swpTo (i j:Nat) (rows:List (List Int)) (k:Nat):List (List Int):=(rows.take k).map (swpRow i j)++rows.drop k
def pivJ (i:Nat):List Int->Nat->Option Nat
 | [],_=>none
 |c::cs,j=>if j<i\/c=0 then pivJ i cs (j+1) else some j
def swpF (i:Nat) (rows:List (List Int)):List (List Int):=match pivJ i (rows.getD i []) 0 with
 |none=>rows
 |some j=>rows.map (swpRow i j)
def stepF (wb:Int) (i:Nat) (rows:List (List Int)):List (List Int):=
 let r1:=swpF i rows
 let r2:=sclF wb (ginv wb ((r1.getD i []).getD i 0)) 0 i r1
 cutF wb i (r2.getD i []) 0 r2
theorem swpTo_zero (i j:Nat) (rows:List (List Int)):swpTo i j rows 0=rows:=by simp [swpTo]
theorem swpTo_full (i j:Nat) (rows:List (List Int)):swpTo i j rows rows.length=rows.map (swpRow i j):=by simp [swpTo]
theorem swpTo_at (i j:Nat) (rows:List (List Int)) (k:Nat) (x:List Int) (h:rows[k]?=some x):(swpTo i j rows k)[k]?=some x:=by
 have hi:=(Zk h).1;unfold swpTo;rw [List.getElem?_append_right (by simp;omega)];simp only [List.length_map,List.length_take,List.getElem?_drop];rw [show k+(k - min k rows.length)=k by omega];exact h
theorem swpTo_step (i j:Nat) (rows:List (List Int)) (k:Nat) (x:List Int) (h:rows[k]?=some x):(swpTo i j rows k).set k (swpRow i j x)=swpTo i j rows (k+1):=by
 have hi:=(Zk h).1;obtain ⟨_,e⟩:=Zk h;unfold swpTo;rw [List.set_append_right _ _ (by simp;omega),List.length_map,List.length_take,show k - min k rows.length=0 by omega,List.drop_eq_getElem_cons hi,Zh,List.take_add_one,h,List.map_append,List.append_assoc];rfl
theorem swpRow_length (i j:Nat) (x:List Int):(swpRow i j x).length=x.length:=by simp [swpRow]
theorem pivJ_drop (i:Nat) (row:List Int) (j:Nat) (c:Int) (hc:row[j]?=some c):pivJ i (row.drop j) j=if j<i\/c=0 then pivJ i (row.drop (j+1)) (j+1) else some j:=by
 obtain ⟨h1,h2⟩:=Zk hc;rw [List.drop_eq_getElem_cons h1,h2,pivJ]
theorem swpF_each {i:Nat} {rows:List (List Int)} {L:Nat} (h: ∀r,r∈rows->r.length=L):(∀r,r∈swpF i rows->r.length=L)/\(swpF i rows).length=rows.length:=by
 unfold swpF;split
 ·exact ⟨h,rfl⟩
 ·refine ⟨fun r hr=> ?_,by simp⟩;obtain ⟨q,hq,rfl⟩:=List.mem_map.1 hr;rw [swpRow_length];exact h q hq
theorem jstep.calls (g o : Nat) (wb : Int) (S0 S : Nat -> Prop) (n co L i : Nat) (bs : List (Nat × Nat)) (rows : List (List Int)) (row : List Int) (W : World) (hw : wb = 8 \/ wb = 16) (hF : Fd W g wb (fpoly wb) S) (hx : ∀ k, S0 k -> S k) (hS : ∀ k, S k -> k < W.heap.size)
  (hM:Mx W o bs rows) (hSb: ∀(i b c:Nat),bs[i]?=some (b,c)->S0 b) (hn:rows.length=n) (hco:n<=co) (hnn:n<=100) (hL: ∀r,r∈rows->r.length=L) (hLL:L<=100) (hL1:1<=L) (hi:i<n) (hiL:i<L) (hrow:rows[i]?=some row):
  Calls Tryz.prog 113 #[.agg #[.pointer (some ⟨g,0,none⟩), .slice (some ⟨o,0,none⟩) n co], .int .i64 (i:Int)] W fun e w'=>e= .returned (.tuple #[])/\Mx w' o bs (stepF wb i rows)/\Fd w' g wb (fpoly wb) S/\BS W w' g S0:=by
 have HW:=Za hw;have HF:=Za (hF.alloc (.cells #[.pointer (some ⟨g,0,none⟩), .slice (some ⟨o,0,none⟩) n co] 146));have HX:=Za hx;have HS:=Za hS;have HM:=Za (hM.alloc (.cells #[.pointer (some ⟨g,0,none⟩), .slice (some ⟨o,0,none⟩) n co] 146));have HSB:=Za hSb;have HL:=Za hL;have HN:=Za hn;have HROW:=Za hrow;have hrl:=hL row (Zo hrow);have HRL:=Za hrl;obtain ⟨⟨bi,ci⟩,hbi⟩: ∃q,bs[i]?=some q:=⟨_,Zf (by have:=hM.len;omega)⟩;have HBI:=Za hbi;have hbx:(W.alloc (.cells #[.pointer (some ⟨g,0,none⟩), .slice (some ⟨o,0,none⟩) n co] 146)).heap[W.heap.size]?=some (.cells #[.pointer (some ⟨g,0,none⟩), .slice (some ⟨o,0,none⟩) n co] 146 (0,0)):=heap_alloc_new _ _;have HBX:=Za hbx;have HB:=Za (show BS W (W.alloc (.cells #[.pointer (some ⟨g,0,none⟩), .slice (some ⟨o,0,none⟩) n co] 146)) g S0 from BS.alloc (BS.refl _ _ _) _);have HGL:=Za hF.lt;have HOL:=Za hM.lt_o;have hb1:(W.alloc (.cells #[.pointer (some ⟨g,0,none⟩), .slice (some ⟨o,0,none⟩) n co] 146)).cell? ⟨W.heap.size,1,none⟩=some (.slice (some ⟨o,0,none⟩) n co):=(aaz hbx 1).trans rfl
 have hoi:(W.alloc (.cells #[.pointer (some ⟨g,0,none⟩), .slice (some ⟨o,0,none⟩) n co] 146)).cell? ⟨o,i,none⟩=some (.slice (some ⟨bi,0,none⟩) L ci):=by rw [HM.out.cIz hbi hrow,hrl]
 have i1:(0:Int)<=(i:Int):=by omega
 have i2:(i:Int)<(n:Int):=by omega
 have i3:(i:Int)<(L:Int):=by omega
 obtain ⟨res,hres⟩: ∃res,stepF wb i rows=res:=⟨_,rfl⟩;have HRES:=Za hres;rw [hres]
 have HPV:=Za (show swpF i rows=(match pivJ i (row.drop 0) 0 with |none=>rows|some j=>rows.map (swpRow i j)) by
  unfold swpF
  rw [Zm,hrow];rfl)
 clear hw hF hx hS hM hSb hL hn hrow hrl hbi hbx hres;go_enter Tryz.func113,Tryz.ntmps113
 go_upto_block 0 with fail
 generalize W.alloc (.cells #[.pointer (some ⟨g,0,none⟩), .slice (some ⟨o,0,none⟩) n co] 146)=w1 at HF HM HBX HB hb1 hoi|-;obtain ⟨fb,hfb⟩: ∃fb,fb=W.heap.size:=⟨_,rfl⟩;have HFB:=Za hfb;rw [<-hfb] at HBX hb1|-;clear hfb
 go_cut [] from 4 (fun wc=>Aside0 (Mx wc o bs (swpF i rows))/\Aside0 (Fd wc g wb (fpoly wb) S)/\Aside0 (BS W wc g S0)/\Aside0 (wc.heap[fb]?=some (.cells #[.pointer (some ⟨g,0,none⟩), .slice (some ⟨o,0,none⟩) n co] 146 (0,0))))
 case rest=>
  obtain ⟨HM2,HF2,HB2,HBX2⟩:=hcut;clear HF HM HB HBX hb1 hoi HPV;have HE:=Za (swpF_each (i:=i) HL.out);have HRES2:=HRES.out;unfold stepF at HRES2;have HRS:=Za HRES2;clear HRES2 HRES;generalize swpF i rows=r1 at HM2 HE HRS;obtain ⟨row1,hr1⟩: ∃r,r1[i]?=some r:=⟨_,Zf (by have:=HE.out.2;have:=HN.out;omega)⟩;have hl1:=HE.out.1 row1 (Zo hr1);obtain ⟨p,hp⟩: ∃p,row1[i]?=some p:=⟨_,Zf (by omega)⟩;have hc0:wc.cell? ⟨fb,0,none⟩=some (.pointer (some ⟨g,0,none⟩)):=(aaz HBX2.out 0).trans rfl;have hc1:wc.cell? ⟨fb,1,none⟩=some (.slice (some ⟨o,0,none⟩) n co):=(aaz HBX2.out 1).trans rfl;have hc2:wc.cell? ⟨o,i,none⟩=some (.slice (some ⟨bi,0,none⟩) L ci):=by rw [HM2.out.cIz HBI.out hr1,hl1]
  have hc3:wc.cell? ⟨bi,i,none⟩=some (.int .i64 p):=HM2.out.c4z HBI.out hr1 hp;have HIV:=Za (gf_Inv.calls g S wb p wc.drew HW.out HF2.out.drew (fun q hq=>Zp (HS.out q hq) HB2.out.size))
  have HPR:=Za (show (r1.getD i []).getD i 0=p by
   have e1:r1.getD i [] =row1:=by rw [Zm,hr1];rfl
   rw [e1,Zm,hp];rfl)
  clear hr1 hl1 hp
  go_wp2_with fail
  refine clz (n:=16) (S:=fun w'=>w'.cell? ⟨fb,0,none⟩=some (.pointer (some ⟨g,0,none⟩))/\w'.cell? ⟨fb,1,none⟩=some (.slice (some ⟨o,0,none⟩) n co)/\w'.cell? ⟨o,i,none⟩=some (.slice (some ⟨bi,0,none⟩) L ci)/\w'.cell? ⟨bi,i,none⟩=some (.int .i64 p)) (ds:= [10]) (bA 16 0) kr_ rfl rfl ⟨hc0,hc1,hc2,hc3⟩ (fun hHeld=> ?_);refine pu_ 0 52 1 ?_;refine pu_ 2 54 5 ?_;refine pu_ 4 56 21 ?_;refine pu_ 7 59 149 ?_;refine tk_ 1 53 151 hHeld ?_;refine tk_ 3 55 159 hHeld ?_;refine pu_ 5 57 191 ?_;refine tk_ 6 58 255 hHeld ?_;refine pu_ 8 60 511 ?_;refine tk_ 9 61 1023 hHeld ?_;refine last_ (i:=10) (N:=some 62) (bA 16 2047) rfl rfl kr_ (by decide) (fun K hK=> ?_);refine goes_ Tryz.func114 kr_ rfl #[.pointer (some ⟨g,0,none⟩), .int .i64 p] (by rfl) rfl rfl am_ ?_
  with_reducible refine (HIV.out).mono ?_
  rintro e w3 ⟨rfl,q1,q2⟩;refine ⟨_,rfl,?_⟩;have Q1:=Za q1;have Q3:=Za (show BB wc w3 g from ⟨q2.os,q2.tape,q2.output,q2.size,q2.block⟩);clear q1 q2;refine hK.out _ _ ?_;clear hK K;refine norm_ (a':= ?_) ?_ ?_;rotate_left
  ·show Act.put _ (some 62) _=_;simp only [Act.put,Zg,Zh,Zi,i64_w,i32_w];rfl
  refine pu_ 11 51 4095 ?_;refine pu_ 12 63 8191 ?_;refine pu_ 13 64 16383 ?_;refine pu_ 14 8 32767 ?_;refine pu_ 15 9 65535 ?_;refine done_ kr_ ?_;have hng:=HM2.out.ne_g (Fd.cells HF2.out).choose_spec;have HM3:=Za (HM2.out.bb hng Q3.out);have HB3:=Za (HB2.out.trans (BS.of_bb Q3.out));have hfg:fb≠g:=by have:=HFB.out;have:=HGL.out;omega
  have HBX3:=Za ((Q3.out.block fb (aPz HBX2.out) hfg).trans HBX2.out);have hbx30:w3.cell? ⟨fb,0,none⟩=some (.pointer (some ⟨g,0,none⟩)):=(aaz HBX3.out 0).trans rfl;have hbx31:w3.cell? ⟨fb,1,none⟩=some (.slice (some ⟨o,0,none⟩) n co):=(aaz HBX3.out 1).trans rfl;have HSC:=Za (scale.calls g o wb S0 S n co L 0 i (ginv wb p) bs r1 w3 HW.out Q1.out HX.out (fun q hq=>Zp (HS.out q hq) HB3.out.size) HM3.out HSB.out (HE.out.2.trans HN.out) hco hnn HE.out.1 hLL hiL (Nat.zero_le _) (by omega));clear hng;have HFG:=Za hfg;clear hfg
  go_wp2_with fail
  refine HSC.out.mono ?_;rintro e w5 ⟨rfl,m5,f5,b5⟩;have HB5:=Za (HB3.out.trans b5);have HBX5:=Za (b5.blk HBX3.out HFG.out (fun hs=>by have h1:=HS.out _ (HX.out _ hs);have h2:=HFB.out;omega));have hbx50:w5.cell? ⟨fb,0,none⟩=some (.pointer (some ⟨g,0,none⟩)):=(aaz HBX5.out 0).trans rfl;have hbx51:w5.cell? ⟨fb,1,none⟩=some (.slice (some ⟨o,0,none⟩) n co):=(aaz HBX5.out 1).trans rfl
  have hl2:(sclF wb (ginv wb p) 0 i r1).length=n:=by
   have:=HE.out.2;have:=HN.out;simp [sclF,sclTo];omega
  obtain ⟨row2,hr2⟩: ∃r,(sclF wb (ginv wb p) 0 i r1)[i]?=some r:=⟨_,Zf (by omega)⟩;have HJC:=Za (jclear.calls g o wb S0 S n co L i bs _ row2 w5 HW.out f5 HX.out (fun q hq=>Zp (HS.out q hq) HB5.out.size) m5 HSB.out hl2 hco hnn (e2z _ _ _ _ _ _ _ HE.out.1) hLL hL1 (by omega) hiL hr2)
  have HRF:=Za (show cutF wb i row2 0 (sclF wb (ginv wb p) 0 i r1)=res by
   rw [<-HRS.out];simp only [HPR.out]
   rw [Zm,hr2];rfl)
  rw [HRF.out] at HJC;clear m5 f5 b5 hl2 hr2 hbx30 hbx31
  go_wp2_with fail
  refine HJC.out.mono ?_;rintro e w6 ⟨rfl,m6,f6,b6⟩;have M6:=Za m6;have F6:=Za f6;have B6:=Za b6;clear m6 f6 b6;go_wp2
  go_end0
  exact ⟨rfl,M6.out,F6.out,HB5.out.trans B6.out⟩
 go_wp2
 go_loopw [16] (fun jv wr=> ∃j:Nat,j<=L/\jv= .int .i64 (j:Int)/\Aside0 (swpF i rows=(match pivJ i (row.drop j) j with |none=>rows|some j=>rows.map (swpRow i j)))/\wr=w1) (fun jv _=>L - (intOf jv).toNat)
 case atStart=>exact ⟨0,Nat.zero_le _,rfl,HPV,rfl⟩
 clear HPV;obtain ⟨j,hj,rfl,HPV,rfl⟩:=hrel;by_cases hlt:j<L
 ·obtain ⟨c,hc⟩: ∃c,row[j]?=some c:=⟨_,Zf (by have:=HRL.out;omega)⟩;have hcj:wr.cell? ⟨bi,j,none⟩=some (.int .i64 c):=HM.out.c4z HBI.out HROW.out hc;have hpd:=pivJ_drop i row j c hc;have j1:(0:Int)<=(j:Int):=by omega
  have j2:(j:Int)<(L:Int):=by omega
  by_cases hsk:j<i\/c=0
  ·rw [Ya hsk] at hpd;have HP2:=Za (HPV.out.trans (by rw [hpd]));clear hpd hc HPV;by_cases hji:j<i
   ·have h1:(j:Int)<(i:Int):=by omega
    go_wp2;go_roundw
    case rel=>exact ⟨j+1,by omega,by go_num,HP2,by first|rfl|trivial⟩
    case measure=>simp [intOf];omega
   ·obtain rfl:c=0:=hsk.resolve_left hji;have h1: ¬(j:Int)<(i:Int):=by omega
    go_wp2;go_roundw
    case rel=>exact ⟨j+1,by omega,by go_num,HP2,by first|rfl|trivial⟩
    case measure=>simp [intOf];omega
  ·rw [Yb hsk] at hpd;have HSW:=Za (show swpF i rows=rows.map (swpRow i j) from HPV.out.trans (by rw [hpd]));have h1: ¬(j:Int)<(i:Int):=by omega
   have h2:(c==0)=false:=by simp;omega
   have HM0:=Za (show Mx wr o bs (swpTo i j rows 0) by rw [swpTo_zero];exact HM.out);clear hpd hc HPV hsk;go_wp2
   go_loopw [31] (fun kv w2=> ∃k:Nat,k<=n/\kv= .int .i64 (k:Int)/\Aside0 (Mx w2 o bs (swpTo i j rows k))/\Aside0 (Fd w2 g wb (fpoly wb) S)/\Aside0 (BS W w2 g S0)/\Aside0 (w2.heap[fb]?=some (.cells #[.pointer (some ⟨g,0,none⟩), .slice (some ⟨o,0,none⟩) n co] 146 (0,0)))) (fun kv _=>n - (intOf kv).toNat)
   case atStart=>exact ⟨0,Nat.zero_le _,rfl,HM0,HF,HB,HBX⟩
   clear HM0 HF HB HBX HM hb1 hoi hcj;obtain ⟨w2,rfl⟩: ∃w2,w2=wr:=⟨_,rfl⟩;obtain ⟨k,hk,rfl,HM,HF,HB,HBX⟩:=hrel;by_cases hlt2:k<n
   ·obtain ⟨x,hx⟩: ∃x,rows[k]?=some x:=⟨_,Zf (by have:=HN.out;omega)⟩;have hat:=swpTo_at i j rows k x hx;obtain ⟨⟨bk,ck⟩,hbk⟩: ∃q,bs[k]?=some q:=⟨_,Zf (by have h1:=HM.out.len;have h2:=(Zk hat).1;omega)⟩;have hxl:=HL.out x (Zo hx);obtain ⟨y,hy⟩: ∃y,x[j]?=some y:=⟨_,Zf (by omega)⟩;obtain ⟨z,hz⟩: ∃z,x[i]?=some z:=⟨_,Zf (by omega)⟩;have hok:w2.cell? ⟨o,k,none⟩=some (.slice (some ⟨bk,0,none⟩) L ck):=by rw [HM.out.cIz hbk hat,hxl]
    have hcy:w2.cell? ⟨bk,j,none⟩=some (.int .i64 y):=HM.out.c4z hbk hat hy;have hcz:w2.cell? ⟨bk,i,none⟩=some (.int .i64 z):=HM.out.c4z hbk hat hz;have hfi:=HM.out.froz_i hbk i;have hfj:=HM.out.froz_i hbk j;obtain ⟨v',hcy2⟩:=cell?_setCell_some (w:=w2) (p:=⟨bk,i,none⟩) (x:= .int .i64 y) (q:=⟨bk,j,none⟩) (v:= .int .i64 y) hcy;have k1:(0:Int)<=(k:Int):=by omega
    have k2:(k:Int)<(n:Int):=by omega
    have HBK:=Za hbk;have HAT:=Za hat;have HFBK:=Za (show bk<fb by have h1:=HS.out _ (HX.out _ (HSB.out _ _ _ hbk));have h2:=HFB.out;omega)
    have HST:=Za (show (swpTo i j rows k).set k ((x.set i y).set j z)=swpTo i j rows (k+1) by
     rw [<-swpTo_step i j rows k x hx];unfold swpRow
     rw [Zm,Zm,hy,hz];rfl)
    have hself:((swpTo i j rows k).set k (x.set i y))[k]?=some (x.set i y):=List.getElem?_set_self (Zk hat).1;have HSE:=Za hself;clear hx hat hbk hxl hy hz hself
    go_wp2_with fail
    refine clz (n:=16) (S:=fun w'=>w'.cell? ⟨bk,j,none⟩=some (.int .i64 y)/\w'.cell? ⟨bk,i,none⟩=some (.int .i64 z)) (ds:= [13,15]) (bA 16 0) kr_ rfl rfl ⟨hcy,hcz⟩ (fun hHeld=> ?_);refine pu_ 0 35 1 ?_;refine pu_ 1 36 3 ?_;refine pu_ 2 37 7 ?_;refine pu_ 3 38 15 ?_;refine pu_ 4 39 31 ?_;refine pu_ 5 40 63 ?_;refine pu_ 6 41 127 ?_;refine pu_ 8 43 383 ?_;refine pu_ 9 44 895 ?_;refine pu_ 10 45 1919 ?_;refine tk_ 7 42 2047 hHeld ?_;refine tk_ 11 46 4095 hHeld ?_;refine pu_ 12 47 8191 ?_;refine last_ (i:=13) (N:=none) (bA 16 16383) rfl rfl kr_ (by decide) (fun K hK=> ?_);refine skip_ (w1:= ?_) (by rfl) rfl ?_ ?_;rotate_left
    ·go_simp;rfl
    refine hK.out _ _ ?_;clear hK K;refine pu_ 14 48 32767 ?_;refine last_ (i:=15) (N:=none) (bA 16 65535) rfl rfl kr_ (by decide) (fun K hK=> ?_);refine skip_ (w1:= ?_) (by rfl) rfl ?_ ?_;rotate_left
    ·go_simp;rfl
    refine hK.out _ _ ?_;clear hK K;refine done_ kr_ ?_;have HM2:=Za ((HM.out.drew.set (j:=i) HBK.out HAT.out y).set (j:=j) HBK.out HSE.out z);rw [List.set_set,HST.out] at HM2;have HF2:=Za ((HF.out.drew.set (q:=⟨bk,i,none⟩) (HX.out _ (HSB.out _ _ _ HBK.out)) (.int .i64 y)).set (q:=⟨bk,j,none⟩) (HX.out _ (HSB.out _ _ _ HBK.out)) (.int .i64 z));have HB2:=Za ((HB.out.drew.set (p:=⟨bk,i,none⟩) (.inl (HSB.out _ _ _ HBK.out)) (.int .i64 y)).set (p:=⟨bk,j,none⟩) (.inl (HSB.out _ _ _ HBK.out)) (.int .i64 z));have hfk:fb≠bk:=by have:=HFBK.out;omega
    have HBX2:=Za (bHz (bHz (cTz HBX.out) (show fb≠(⟨bk,i,none⟩:Addr).block from hfk) (.int .i64 y)) (show fb≠(⟨bk,j,none⟩:Addr).block from hfk) (.int .i64 z));go_wp2;go_roundw
    case rel=>exact ⟨k+1,by omega,by go_num,HM2,HF2,HB2,HBX2⟩
    case measure=>simp [intOf];omega
   ·obtain rfl:k=n:=by omega
    have HME:=Za (show Mx w2 o bs (swpF i rows) by
     have h:=HM.out
     rw [<-HN.out,swpTo_full, <-HSW.out] at h;exact h)
    go_wp2
    go_meet
    case rel=>exact ⟨HME,HF,HB,HBX⟩
 ·obtain rfl:j=L:=by omega
  have HE:=Za (show swpF i rows=rows by
   have h:=HPV.out;rw [List.drop_of_length_le (by rw [HRL.out];exact Zv _),pivJ] at h
   exact h)
  go_wp2
  go_meet
  case rel=>exact ⟨⟨by rw [HE.out];exact HM.out⟩,HF,HB,HBX⟩
def stepsF (wb:Int):Nat->List (List Int)->List (List Int)
 |0,rows=>rows
 |i+1,rows=>stepF wb i (stepsF wb i rows)
def colsF (wb:Int) (k:Nat):Nat->List (List Int)->List (List Int)
 |0,rows=>rows
 |j+1,rows=>let r:=colsF wb k j rows;sclF wb (ginv wb ((r.getD k []).getD j 0)) k j r
def rowInv (wb:Int) (row:List Int):List Int:=row.map fun x=>gmul wb x (ginv wb (row.getD 0 0))
def jvM (wb:Int) (k m:Nat):List (List Int):=
 let r:=(colsF wb k k (stepsF wb k (extM wb k m))).drop k
 r.take 1++(r.drop 1).map (rowInv wb)
theorem stepF_each {wb:Int} {i:Nat} {rows:List (List Int)} {L:Nat} (h: ∀r,r∈rows->r.length=L):(∀r,r∈stepF wb i rows->r.length=L)/\(stepF wb i rows).length=rows.length:=by
 have cut: ∀(cs:List Int) (j:Nat) (rs:List (List Int)),(∀r,r∈rs->r.length=L)->(∀r,r∈cutF wb i cs j rs->r.length=L)/\(cutF wb i cs j rs).length=rs.length:=by
  intro cs
  induction cs with
  |nil=>exact fun _ _ h=>⟨h,rfl⟩
  |cons c cs ih=>
   intro j rs h;have h1:=ePz (wb:=wb) (c:=c) (i:=i) (j:=j) h;have h2:=ih (j+1) _ h1.1;exact ⟨h2.1,h2.2.trans h1.2⟩
 unfold stepF;have h1:=swpF_each (i:=i) h;have h2:=e2z wb (ginv wb (((swpF i rows).getD i []).getD i 0)) 0 i (swpF i rows) ((swpF i rows).length - 0) L h1.1;have h3:=cut ((sclF wb (ginv wb (((swpF i rows).getD i []).getD i 0)) 0 i (swpF i rows)).getD i []) 0 _ h2;refine ⟨h3.1,h3.2.trans ?_⟩;rw [<-h1.2];simp [sclTo]
theorem eLz (wb:Int) (k m:Nat) (h1:1<=k) (h2:1<=m):(∀r,r∈extM wb k m->r.length=k)/\(extM wb k m).length=k+m:=by
 refine ⟨fun r hr=> ?_,by simp [extM,madeF];omega⟩;unfold extM at hr;rcases List.mem_append.1 hr with hr|hr
 ·simp only [madeF,List.mem_map] at hr;obtain ⟨i, -,rfl⟩:=hr;simp
 ·rw [List.mem_singleton.1 hr];simp [lastU]
def invTo (wb:Int) (k:Nat) (rows:List (List Int)) (i:Nat):List (List Int):=rows.take (k+1)++(((rows.drop (k+1)).take i).map (rowInv wb)++(rows.drop (k+1)).drop i)
theorem invTo_zero (wb:Int) (k:Nat) (rows:List (List Int)):invTo wb k rows 0=rows:=by simp [invTo]
theorem invTo_at (wb:Int) (k:Nat) (rows:List (List Int)) (i:Nat) (row:List Int) (hf:k+1<=rows.length) (h:rows[k+1+i]?=some row):(invTo wb k rows i)[k+1+i]?=some row:=by
 have hi:=(Zk h).1;unfold invTo;rw [List.getElem?_append_right (by simp;omega),List.length_take,Nat.min_eq_left hf,Nat.add_sub_cancel_left,List.getElem?_append_right (by simp;omega)];simp only [List.length_map,List.length_take,List.length_drop,List.getElem?_drop];rw [show k+1+(i+(i - min i (rows.length - (k+1))))=k+1+i by omega];exact h
theorem invTo_step (wb:Int) (k:Nat) (rows:List (List Int)) (i:Nat) (row:List Int) (hf:k+1<=rows.length) (h:rows[k+1+i]?=some row):(invTo wb k rows i).set (k+1+i) (rowInv wb row)=invTo wb k rows (i+1):=by
 have hi:=(Zk h).1;have h2:(rows.drop (k+1))[i]?=some row:=by rw [List.getElem?_drop];exact h
 obtain ⟨h3,h4⟩:=Zk h2;unfold invTo;rw [List.set_append_right _ _ (by simp;omega),List.length_take,Nat.min_eq_left hf,Nat.add_sub_cancel_left,List.set_append_right _ _ (by simp;omega),List.length_map,List.length_take,List.length_drop,show i - min i (rows.length - (k+1))=0 by omega,List.drop_eq_getElem_cons h3,Zh,List.take_add_one (l:=rows.drop (k+1)),h2,List.map_append,List.append_assoc (List.map _ _)];rfl
theorem invTo_full (wb:Int) (k:Nat) (rows:List (List Int)) (hf:k+1<=rows.length):(invTo wb k rows (rows.length - (k+1))).drop k=(rows.drop k).take 1++((rows.drop k).drop 1).map (rowInv wb):=by
 have e1:(rows.drop (k+1)).take (rows.length - (k+1))=rows.drop (k+1):=List.take_of_length_le (by simp);have e2:(rows.drop (k+1)).drop (rows.length - (k+1))= [] :=List.drop_of_length_le (by simp);unfold invTo;rw [e1,e2,List.append_nil,List.drop_append_of_le_length (by simp;omega),List.drop_drop];congr 1
 rw [List.drop_take];congr 1
 omega
def mulTo (wb c:Int) (row:List Int) (j:Nat):List Int:=(row.take j).map (fun x=>gmul wb x c)++row.drop j
theorem mulTo_zero (wb c:Int) (row:List Int):mulTo wb c row 0=row:=by simp [mulTo]
theorem mulTo_full (wb:Int) (row:List Int):mulTo wb (ginv wb (row.getD 0 0)) row row.length=rowInv wb row:=by simp [mulTo,rowInv]
theorem mulTo_at (wb c:Int) (row:List Int) (j:Nat) (x:Int) (h:row[j]?=some x):(mulTo wb c row j)[j]?=some x:=by
 have hi:=(Zk h).1;unfold mulTo;rw [List.getElem?_append_right (by simp;omega)];simp only [List.length_map,List.length_take,List.getElem?_drop];rw [show j+(j - min j row.length)=j by omega];exact h
theorem mulTo_step (wb c:Int) (row:List Int) (j:Nat) (x:Int) (h:row[j]?=some x):(mulTo wb c row j).set j (gmul wb x c)=mulTo wb c row (j+1):=by
 obtain ⟨hi,e⟩:=Zk h;unfold mulTo;rw [List.set_append_right _ _ (by simp;omega),List.length_map,List.length_take,show j - min j row.length=0 by omega,List.drop_eq_getElem_cons hi,Zh,List.take_add_one,h,List.map_append,List.append_assoc];rfl
theorem d9z {wb:Int} {rows:List (List Int)} {L:Nat} (h: ∀r,r∈rows->r.length=L): ∀i,(∀r,r∈stepsF wb i rows->r.length=L)/\(stepsF wb i rows).length=rows.length
 |0=>⟨h,rfl⟩
 |i+1=>by
  have h1:=d9z (wb:=wb) h i;have h2:=stepF_each (wb:=wb) (i:=i) h1.1;exact ⟨h2.1,h2.2.trans h1.2⟩
theorem e3z {wb:Int} {k:Nat} {rows:List (List Int)} {L:Nat} (h: ∀r,r∈rows->r.length=L): ∀j,(∀r,r∈colsF wb k j rows->r.length=L)/\(colsF wb k j rows).length=rows.length
 |0=>⟨h,rfl⟩
 |j+1=>by
  have h1:=e3z (wb:=wb) (k:=k) h j;refine ⟨e2z _ _ _ _ _ _ _ h1.1,?_⟩;have: ∀(c:Int) (rs:List (List Int)),(sclF wb c k j rs).length=rs.length:=fun c rs=>by simp [sclF,sclTo];omega
  exact (this _ _).trans h1.2
theorem BS.bb_of {W a b:World} {g:Nat} {S0:Nat->Prop} (h:BB W a g) (k:BS a b g S0) (hs: ∀q,S0 q->W.heap.size<=q):BB W b g:=
 ⟨k.os.trans h.os,k.tape.trans h.tape,k.output.trans h.output,Zt h.size k.size,fun i hi hg=>(k.block i (Zp hi h.size) hg (fun s=>by have:=hs i s;omega)).trans (h.block i hi hg)⟩
def NewG (g B q:Nat):Prop:=q≠g/\B<=q
theorem Mx.F_drop {W : World} {o : Nat} {bs : List (Nat × Nat)} {rows : List (List Int)} (h : Mx W o bs rows) {g B : Nat} (hg : o ≠ g /\ ∀ (i b c : Nat), bs[i]? = some (b, c) -> b ≠ g) (hB : B <= o /\ ∀ (i b c : Nat), bs[i]? = some (b, c) -> B <= b) (n : Nat) (hl : rows.length <= 1000) (hr : ∀ r, r ∈ rows -> r.length <= 1000) :
  Kd.F (dM 3 .i64) W (NewG g B) (some ⟨o,n,none⟩) (rows.drop n).length (rows.drop n):=by
 intro W' hW;have h':Mx W' o bs rows:=h.move (hW o ⟨hg.1,hB.1⟩ h.lt_o) (fun i b c hb=>hW b ⟨hg.2 i b c hb,hB.2 i b c hb⟩ (h.lt_i hb));refine ⟨rfl,by simp;omega,fun _=>⟨_,rfl,fun j p hp=> ?_⟩⟩;rw [List.getElem?_drop] at hp;obtain ⟨⟨b,c⟩,hb⟩: ∃q,bs[n+j]?=some q:=⟨_,Zf (by have h1:=h.len;have h2:=(Zk hp).1;omega)⟩;have hc:=h'.C_row hb hp 0 (hr p (Zo hp));rw [List.drop_zero] at hc;refine ⟨[.slice (some ⟨b,0,none⟩) p.length c],rfl,⟨_,c,rfl,(h'.inner _ b c p hb hp).1,hc⟩,fun i u hu=> ?_⟩
 cases i with
 |succ i=>simp at hu
 |zero=>
  obtain rfl:Value.slice (some ⟨b,0,none⟩) p.length c=u:=by simpa using hu
  have e:(⟨o,n,none⟩:Addr).add (j*(dM 3 .i64).sz+0)=⟨o,n+j,none⟩:=by
   show (⟨o,n,none⟩:Addr).add (j*1+0)=_;unfold Addr.add;split<;>simp_all
  rw [e];exact h'.cIz hb hp
theorem jpar.calls (g : Nat) (wb : Int) (S : Nat -> Prop) (k m : Nat) (W : World) (hw : wb = 8 \/ wb = 16) (hF : Fd W g wb (fpoly wb) S) (hS : ∀ k, S k -> k < W.heap.size) (h1 : 1 <= k) (h2 : 1 <= m) (h3 : k <= 8) (h4 : m <= 4) :
  Calls Tryz.prog 76 #[.pointer (some ⟨g,0,none⟩), .int .i64 (k:Int), .int .i64 (m:Int)] W fun e w'=> ∃A c,e= .returned (.tuple #[.slice A m c, .int .i64 0])/\m<=c/\Kd.F (dM 3 .i64) w' (NewG g W.heap.size) A m (jvM wb k m)/\Fd w' g wb (fpoly wb) S/\BB W w' g:=by
 have HX:=Za (Extended.calls g wb S k m W hw hF hS h1 h2 h3 h4);have HE:=Za (eLz wb k m h1 h2);have HW:=Za hw;have HF:=Za hF;have HS:=Za hS;obtain ⟨res,hres⟩: ∃r,jvM wb k m=r:=⟨_,rfl⟩;rw [hres];unfold jvM at hres;have HRES:=Za hres;generalize extM wb k m=ext at HX HE HRES;have hmf: ∀(fn:Fn) (first cap:Array Value) (w:World),(Instr.makeFunc fn first cap).run Tryz.prog w= .ok (.func fn first cap) w:=fun _ _ _ _=>rfl
 clear hw hF hS hres;go_enter Tryz.func76,Tryz.ntmps76
 go_wp2_with fail
 refine HX.out.mono ?_;rintro e w1 ⟨v,Own,rfl,q1,q2,qo,q3⟩;obtain ⟨o,co,bs,rfl,hco,hBo,hMx,hbs,hoo,hob⟩:=S_MxO q1 (by rw [HE.out.2];omega) (fun r hr=>by rw [HE.out.1 r hr];omega);rw [HE.out.2] at hco|-;have HCO:=Za hco;have HBO:=Za hBo;have HMX:=Za hMx;have HBS:=Za hbs;obtain ⟨S0,hS0⟩: ∃S0:Nat->Prop,S0=(fun q=>q=o\/ ∃(i c:Nat),bs[i]?=some (q,c)):=⟨_,rfl⟩;have HS0o:=Za (show S0 o by rw [hS0];exact .inl rfl);have HS0b:=Za (show∀(i b c:Nat),bs[i]?=some (b,c)->S0 b by rw [hS0];exact fun i b c h=> .inr ⟨i,c,h⟩)
 have HS0w:=Za (show∀q,S0 q->W.heap.size<=q/\q<w1.heap.size by
  rw [hS0];rintro q (rfl|⟨i,c,h⟩)
  ·exact ⟨hBo,hMx.lt_o⟩
  ·exact ⟨hbs i q c h,hMx.lt_i h⟩)
 have HF1:=Za (show Fd w1 g wb (fpoly wb) (fun q=>S q\/S0 q) from q2.thin (fun q _ hs=>hs.elim .inl (fun h=> .inr (by rw [hS0] at h;rcases h with rfl|⟨i,c,h⟩;exact hoo;exact hob i q c h))));have HB1:=Za q3;clear hco hBo hMx hbs q1 q2 q3 HX hoo hob qo hS0;obtain ⟨SS,hSS⟩: ∃SS:Nat->Prop,SS=(fun q=>S q\/S0 q):=⟨_,rfl⟩;have HSX:=Za (show∀q,S0 q->SS q by rw [hSS];exact fun q h=> .inr h)
 have HSS:=Za (show∀q,SS q->q<w1.heap.size by
  rw [hSS];rintro q (h|h)
  ·have:=HS.out q h;have:=HB1.out.size;omega
  ·exact (HS0w.out q h).2)
 rw [<-hSS] at HF1;have HSE:=Za hSS;clear hSS;obtain ⟨n,hn⟩: ∃n,k+m=n:=⟨_,rfl⟩;have HN:=Za hn;have n1:k<n:=by omega
 have n2:n<=12:=by omega
 rw [hn] at HCO HE|-;clear hn;go_wp2;have HBX:=Za (show (w1.alloc (.cells #[.pointer (some ⟨g,0,none⟩), .slice (some ⟨o,0,none⟩) n co] 146)).heap[w1.heap.size]?=some (.cells #[.pointer (some ⟨g,0,none⟩), .slice (some ⟨o,0,none⟩) n co] 146 (0,0)) from heap_alloc_new _ _);have HF2:=Za (HF1.out.alloc (.cells #[.pointer (some ⟨g,0,none⟩), .slice (some ⟨o,0,none⟩) n co] 146));have HM2:=Za (show Mx (w1.alloc (.cells #[.pointer (some ⟨g,0,none⟩), .slice (some ⟨o,0,none⟩) n co] 146)) o bs (stepsF wb 0 ext) from HMX.out.alloc _);have HB2:=Za (HB1.out.alloc (.cells #[.pointer (some ⟨g,0,none⟩), .slice (some ⟨o,0,none⟩) n co] 146));generalize w1.alloc (.cells #[.pointer (some ⟨g,0,none⟩), .slice (some ⟨o,0,none⟩) n co] 146)=w2 at HBX HF2 HM2 HB2|-;obtain ⟨fb,hfb⟩: ∃fb,w1.heap.size=fb:=⟨_,rfl⟩;have HFB:=Za (show∀q,SS q->q<fb by rw [<-hfb];exact HSS.out);have HFG:=Za (show fb≠g by have:=HF1.out.lt;omega);have HFL:=Za (show∀w',BB W w' g->w'.heap[fb]?=some (.cells #[.pointer (some ⟨g,0,none⟩), .slice (some ⟨o,0,none⟩) n co] 146 (0,0))-> ∀q,SS q->q<w'.heap.size from fun w' _ hb q hq=>Nat.lt_trans (HFB.out q hq) (aPz hb))
 have HF0:=Za (show¬SS fb from fun h=>by have:=HFB.out fb h;omega);have HSW:=Za (show∀q,S0 q->W.heap.size<=q from fun q h=>(HS0w.out q h).1);rw [hfb] at HBX|-;clear hfb HSS HF1 HB1 HMX;have HST:=Za (fun i=>d9z (wb:=wb) HE.out.1 i)
 go_loopw [39] (fun iv wr=> ∃i:Nat,i<=k/\iv= .int .i64 (i:Int)/\Aside0 (Mx wr o bs (stepsF wb i ext))/\Aside0 (Fd wr g wb (fpoly wb) SS)/\Aside0 (BB W wr g)/\Aside0 (wr.heap[fb]?=some (.cells #[.pointer (some ⟨g,0,none⟩), .slice (some ⟨o,0,none⟩) n co] 146 (0,0)))) (fun iv _=>k - (intOf iv).toNat)
 case atStart=>exact ⟨0,Nat.zero_le _,rfl,HM2,HF2,HB2,HBX⟩
 clear HM2 HF2 HB2 HBX;obtain ⟨w3,rfl⟩: ∃w3,w3=wr:=⟨_,rfl⟩;obtain ⟨i,hi,rfl,HM,HF2,HB,HBX⟩:=hrel;by_cases hlt:i<k
 ·obtain ⟨row,hrow⟩: ∃row,(stepsF wb i ext)[i]?=some row:=⟨_,Zf (by have h1:=(HST.out i).2;have h2:=HE.out.2;omega)⟩;have HJ:=Za (jstep.calls g o wb S0 SS n co k i bs (stepsF wb i ext) row w3 HW.out HF2.out HSX.out (HFL.out w3 HB.out HBX.out) HM.out HS0b.out ((HST.out i).2.trans HE.out.2) HCO.out (by omega) (HST.out i).1 (by omega) (by omega) (by omega) hlt hrow);clear hrow
  go_wp2_with fail
  refine HJ.out.mono ?_;rintro e w4 ⟨rfl,m4,f4,b4⟩;have M4:=Za (show Mx w4 o bs (stepsF wb (i+1) ext) from m4);have F4:=Za f4;have B4:=Za (BS.bb_of HB.out b4 HSW.out);have X4:=Za (b4.blk HBX.out HFG.out (fun h=>HF0.out (HSX.out _ h)));clear m4 f4 b4 HJ;go_wp2;go_roundw
  case rel=>exact ⟨i+1,by omega,by go_num,M4,F4,B4,X4⟩
  case measure=>simp [intOf];omega
 ·obtain rfl:i=k:=by omega
  have HR1:=HRES.out;obtain ⟨r1,hr1⟩: ∃r1,stepsF wb i ext=r1:=⟨_,rfl⟩;have HE1:=Za (show (∀r,r∈r1->r.length=i)/\r1.length=n by rw [<-hr1];exact ⟨(HST.out i).1,(HST.out i).2.trans HE.out.2⟩);rw [hr1] at HM HR1;have HRES1:=Za HR1;have HCL:=Za (fun j=>e3z (wb:=wb) (k:=i) HE1.out.1 j);clear hr1 HR1 HRES HST;obtain ⟨⟨bk,ck⟩,hbk⟩: ∃q,bs[i]?=some q:=⟨_,Zf (by have h1:=HM.out.len;have h2:=HE1.out.2;omega)⟩;have HBK:=Za hbk;obtain ⟨rk,hrk⟩: ∃r,r1[i]?=some r:=⟨_,Zf (by have h2:=HE1.out.2;omega)⟩;have hok:w3.cell? ⟨o,i,none⟩=some (.slice (some ⟨bk,0,none⟩) i ck):=by rw [HM.out.cIz hbk hrk,HE1.out.1 rk (Zo hrk)]
  have HM0:=Za (show Mx w3 o bs (colsF wb i 0 r1) from HM.out);have k1:(0:Int)<=(i:Int):=by omega
  have k2:(i:Int)<(n:Int):=by omega
  clear hbk hrk HM;go_wp2;clear hok
  go_loopw [51] (fun jv wr=> ∃j:Nat,j<=i/\jv= .int .i64 (j:Int)/\Aside0 (Mx wr o bs (colsF wb i j r1))/\Aside0 (Fd wr g wb (fpoly wb) SS)/\Aside0 (BB W wr g)/\Aside0 (wr.heap[fb]?=some (.cells #[.pointer (some ⟨g,0,none⟩), .slice (some ⟨o,0,none⟩) n co] 146 (0,0)))) (fun jv _=>i - (intOf jv).toNat)
  case atStart=>exact ⟨0,Nat.zero_le _,rfl,HM0,HF2,HB,HBX⟩
  clear HM0 HF2 HB HBX;obtain ⟨w4,rfl⟩: ∃w4,w4=wr:=⟨_,rfl⟩;obtain ⟨j,hj,rfl,HM,HF2,HB,HBX⟩:=hrel;by_cases hlt2:j<i
  ·have h3:=(HCL.out j).2;have h4:=HE1.out.2;obtain ⟨row,hrow⟩: ∃row,(colsF wb i j r1)[i]?=some row:=⟨_,Zf (by omega)⟩;obtain ⟨x,hx⟩: ∃x,row[j]?=some x:=⟨_,Zf (by rw [(HCL.out j).1 row (Zo hrow)];exact hlt2)⟩;have hcx:w4.cell? ⟨bk,j,none⟩=some (.int .i64 x):=HM.out.c4z HBK.out hrow hx
   have HXX:=Za (show ((colsF wb i j r1).getD i []).getD j 0=x by
    have e1:(colsF wb i j r1).getD i [] =row:=by rw [Zm,hrow];rfl
    rw [e1,Zm,hx];rfl)
   have HIV:=Za (gf_Inv.calls g SS wb x w4 HW.out HF2.out (HFL.out w4 HB.out HBX.out));have j1:(0:Int)<=(j:Int):=by omega
   have j2:(j:Int)<(i:Int):=by omega
   clear hrow hx h3 h4
   go_wp2_with fail
   refine HIV.out.mono ?_;rintro e w5 ⟨rfl,q1,q2⟩;have hng:=HM.out.ne_g (Fd.cells HF2.out).choose_spec;have M5:=Za (HM.out.bb hng q2);have F5:=Za q1;have B5:=Za (HB.out.trans q2);have X5:=Za ((q2.block fb (aPz HBX.out) HFG.out).trans HBX.out);have hbx0:w5.cell? ⟨fb,0,none⟩=some (.pointer (some ⟨g,0,none⟩)):=(aaz X5.out 0).trans rfl;have hbx1:w5.cell? ⟨fb,1,none⟩=some (.slice (some ⟨o,0,none⟩) n co):=(aaz X5.out 1).trans rfl;have HSC:=Za (scale.calls g o wb S0 SS n co i i j (ginv wb x) bs (colsF wb i j r1) w5 HW.out F5.out HSX.out (HFL.out w5 B5.out X5.out) M5.out HS0b.out ((HCL.out j).2.trans HE1.out.2) HCO.out (by omega) (HCL.out j).1 (by omega) hlt2 (by omega) (by omega))
   have HNX:=Za (show sclF wb (ginv wb x) i j (colsF wb i j r1)=colsF wb i (j+1) r1 by
    show _=(let r:=colsF wb i j r1;sclF wb (ginv wb ((r.getD i []).getD j 0)) i j r)
    simp only [HXX.out])
   rw [HNX.out] at HSC;clear q1 q2 hng hcx HIV
   go_wp2_with fail
   refine HSC.out.mono ?_;rintro e w6 ⟨rfl,m6,f6,b6⟩;have M6:=Za m6;have F6:=Za f6;have B6:=Za (BS.bb_of B5.out b6 HSW.out);have X6:=Za (b6.blk X5.out HFG.out (fun h=>HF0.out (HSX.out _ h)));clear m6 f6 b6 HSC hbx0 hbx1;go_wp2;go_roundw
   case rel=>exact ⟨j+1,by omega,by go_num,M6,F6,B6,X6⟩
   case measure=>simp [intOf];omega
  ·obtain rfl:i=j:=by omega
   have HR1:=HRES1.out;obtain ⟨r2,hr2⟩: ∃r2,colsF wb i i r1=r2:=⟨_,rfl⟩;have HE2:=Za (show (∀r,r∈r2->r.length=i)/\r2.length=n by rw [<-hr2];exact ⟨(HCL.out i).1,(HCL.out i).2.trans HE1.out.2⟩);rw [hr2] at HM HR1
   have HR2:=Za (show (invTo wb i r2 (n - (i+1))).drop i=res by
    have e:=invTo_full wb i r2 (by rw [HE2.out.2];omega);rw [HE2.out.2] at e
    exact e.trans HR1)
   clear hr2 HR1 HRES1 HCL;obtain ⟨nl,hnl⟩: ∃nl,n - (i+1)=nl:=⟨_,rfl⟩;have HNL:=Za (show i+1+nl=n by omega);have hnl100:nl<=100:=by omega
   have hmm:n - i=m:=by have:=HN.out;omega
   have f6: ¬co=i:=by have:=HCO.out;omega
   have p1:(0:Int)<=(i:Int)+1:=by omega
   have p2:(i:Int)+1<=(n:Int):=by omega
   have HM0:=Za (show Mx w4 o bs (invTo wb i r2 0) by rw [invTo_zero];exact HM.out);rw [hnl] at HR2
   have HFIN:=Za (show∀w',Mx w' o bs (invTo wb i r2 nl)->Fd w' g wb (fpoly wb) SS->BB W w' g->(m<=co - i/\Kd.F (dM 3 .i64) w' (NewG g W.heap.size) (some ⟨o,i,none⟩) m res/\Fd w' g wb (fpoly wb) S/\BB W w' g) from fun w' a b c=>by
    have hll:(invTo wb i r2 nl).length=n:=by
     have h1:=HE2.out.2;have h2:=HNL.out;simp [invTo];omega
    have hF:=a.F_drop (a.ne_g (Fd.cells b).choose_spec) ⟨HBO.out,HBS.out⟩ i (by omega) (fun r hr=>by
     have:r.length=i:=by
      unfold invTo at hr;rcases List.mem_append.1 hr with hr|hr
      ·exact HE2.out.1 r (List.mem_of_mem_take hr)
      ·rcases List.mem_append.1 hr with hr|hr
       ·obtain ⟨q,hq,rfl⟩:=List.mem_map.1 hr;simp only [rowInv,List.length_map];exact HE2.out.1 q (List.mem_of_mem_drop (List.mem_of_mem_take hq))
       ·exact HE2.out.1 r (List.mem_of_mem_drop (List.mem_of_mem_drop hr))
     omega)
    rw [List.length_drop,hll,hmm,HR2.out] at hF
    exact ⟨by have:=HCO.out;omega,hF,b.thin (fun q _ hq=>by rw [HSE.out];exact .inl hq),c⟩)
   clear HM;by_cases hco:co=i+1
   ·subst hco;obtain rfl:nl=0:=by have:=HCO.out;have:=HNL.out;omega
    go_wp2
    go_loopw [73] (fun jv wr=>jv= .int .i64 0/\wr=w4) (fun _ _=>0)
    case atStart=>exact ⟨rfl,rfl⟩
    obtain ⟨rfl,rfl⟩:=hrel;go_wp2;go_ret2;obtain ⟨z1,z2,z3,z4⟩:=HFIN.out _ HM0.out HF2.out HB.out;exact ⟨_,_,rfl,by omega,z2,z3,z4⟩
   ·go_wp2
    go_loopw [73] (fun tv wr=> ∃t:Nat,t<=nl/\tv= .int .i64 (t:Int)/\Aside0 (Mx wr o bs (invTo wb i r2 t))/\Aside0 (Fd wr g wb (fpoly wb) SS)/\Aside0 (BB W wr g)/\Aside0 (fb<wr.heap.size)) (fun tv _=>nl - (intOf tv).toNat)
    case atStart=>exact ⟨0,Nat.zero_le _,rfl,HM0,HF2,HB,⟨aPz HBX.out⟩⟩
    clear HM0 HF2 HB HBX;obtain ⟨w5,rfl⟩: ∃w5,w5=wr:=⟨_,rfl⟩;obtain ⟨t,ht,rfl,HM,HF2,HB,HFS⟩:=hrel;by_cases hlt3:t<nl
    ·obtain ⟨row,hrow⟩: ∃r,r2[i+1+t]?=some r:=⟨_,Zf (by have:=HE2.out.2;have:=HNL.out;omega)⟩;have hat:=invTo_at wb i r2 t row (by rw [HE2.out.2];omega) hrow;obtain ⟨⟨bi,ci⟩,hbi⟩: ∃q,bs[i+1+t]?=some q:=⟨_,Zf (by have h1:=HM.out.len;have h2:=(Zk hat).1;omega)⟩;have hrl:=HE2.out.1 row (Zo hrow);obtain ⟨x0,hx0⟩: ∃x,row[0]?=some x:=⟨_,Zf (by omega)⟩;have hco1:w5.cell? ⟨o,i+1+t,none⟩=some (.slice (some ⟨bi,0,none⟩) i ci):=by rw [HM.out.cIz hbi hat,hrl]
     have hci:w5.cell? ⟨bi,0,none⟩=some (.int .i64 x0):=HM.out.c4z hbi hat hx0;have HIV:=Za (gf_Inv.calls g SS wb x0 w5 HW.out HF2.out (fun q hq=>Nat.lt_trans (HFB.out q hq) HFS.out));have t1:(0:Int)<=(t:Int):=by omega
     have t2:(t:Int)<(nl:Int):=by omega
     have HROW:=Za hrow;have HAT:=Za hat;have HBI:=Za hbi;have HRL:=Za hrl;have HX0:=Za (show row.getD 0 0=x0 by rw [Zm,hx0];rfl);clear hrow hat hbi hrl hx0
     go_wp2_with fail
     refine HIV.out.mono ?_;rintro e w6 ⟨rfl,q1,q2⟩;have hng:=HM.out.ne_g (Fd.cells HF2.out).choose_spec;have HNG:=Za hng
     have HM6:=Za (show Mx w6 o bs ((invTo wb i r2 t).set (i+1+t) (mulTo wb (ginv wb x0) row 0)) by
      obtain ⟨hl,e⟩:=Zk HAT.out;rw [mulTo_zero, <-e,List.set_getElem_self]
      exact HM.out.bb hng q2)
     have HF6:=Za q1;have HB6:=Za (HB.out.trans q2);have HFS6:=Za (Zp HFS.out q2.size)
     have HFU:=Za (show ((invTo wb i r2 t).set (i+1+t) (mulTo wb (ginv wb x0) row i))=invTo wb i r2 (t+1) by
      rw [<-invTo_step wb i r2 t row (by rw [HE2.out.2];omega) HROW.out, <-HX0.out];congr 1
      have:=mulTo_full wb row;rw [HRL.out] at this
      exact this)
     clear q1 q2 hng hco1 hci HIV HM HF2 HB HFS;generalize ginv wb x0=c at HM6 HFU|-;go_wp2
     go_loopw [87] (fun jv wr=> ∃j:Nat,j<=i/\jv= .int .i64 (j:Int)/\Aside0 (Mx wr o bs ((invTo wb i r2 t).set (i+1+t) (mulTo wb c row j)))/\Aside0 (Fd wr g wb (fpoly wb) SS)/\Aside0 (BB W wr g)/\Aside0 (fb<wr.heap.size)) (fun jv _=>i - (intOf jv).toNat)
     case atStart=>exact ⟨0,Nat.zero_le _,rfl,HM6,HF6,HB6,HFS6⟩
     clear HM6 HF6 HB6 HFS6;obtain ⟨w7,rfl⟩: ∃w7,w7=wr:=⟨_,rfl⟩;obtain ⟨j,hj,rfl,HM7,HF7,HB7,HS7⟩:=hrel;by_cases hlt4:j<i
     ·obtain ⟨x,hx⟩: ∃x,row[j]?=some x:=⟨_,Zf (by rw [HRL.out];exact hlt4)⟩;have hself:((invTo wb i r2 t).set (i+1+t) (mulTo wb c row j))[i+1+t]?=some (mulTo wb c row j):=List.getElem?_set_self (Zk HAT.out).1;have hcx:w7.cell? ⟨bi,j,none⟩=some (.int .i64 x):=HM7.out.c4z HBI.out hself (mulTo_at wb c row j x hx);have hfx:=HM7.out.froz_i HBI.out j;have HMU:=Za (cOz.calls g SS wb x c w7 HW.out HF7.out (fun q hq=>Nat.lt_trans (HFB.out q hq) HS7.out));have HCI:=Za (show∀w3,BB w7 w3 g->w3.cell? ⟨bi,j,none⟩=some (.int .i64 x)/\w3.frozen? ⟨bi,j,none⟩=false from fun w3 h=>⟨cFz h hcx (HNG.out.2 _ _ _ HBI.out),froz_bb h (p:=⟨bi,j,none⟩) (HM7.out.lt_i HBI.out) hfx (HNG.out.2 _ _ _ HBI.out)⟩);have HSTP:=Za (mulTo_step wb c row j x hx);have HSELF:=Za hself;have j1:(0:Int)<=(j:Int):=by omega
      have j2:(j:Int)<(i:Int):=by omega
      clear hx hself hfx
      go_wp2_with fail
      refine HMU.out.mono ?_;rintro e w8 ⟨rfl,q1,q2⟩;obtain ⟨d1,d2⟩:=HCI.out w8 q2;have M8:=Za ((HM7.out.bb HNG.out q2).set (j:=j) HBI.out HSELF.out (gmul wb x c));rw [List.set_set,HSTP.out] at M8;have F8:=Za (q1.set (q:=⟨bi,j,none⟩) (HSX.out _ (HS0b.out _ _ _ HBI.out)) (.int .i64 (gmul wb x c)));have B8:=Za ((HB7.out.trans q2).new (HSW.out _ (HS0b.out _ _ _ HBI.out)) j (.int .i64 (gmul wb x c)));have S8:=Za (show fb<(w8.setCell ⟨bi,j,none⟩ (.int .i64 (gmul wb x c))).heap.size by simpa using Zp HS7.out q2.size);clear q1 q2 hcx HMU HCI;go_wp2;go_roundw
      case rel=>exact ⟨j+1,by omega,by go_num,M8,F8,B8,S8⟩
      case measure=>simp [intOf];omega
     ·obtain rfl:i=j:=by omega
      rw [HFU.out] at HM7;go_wp2;go_roundw
      case rel=>exact ⟨t+1,by omega,by go_num,HM7,HF7,HB7,HS7⟩
      case measure=>simp [intOf];omega
    ·obtain rfl:t=nl:=by omega
     go_wp2;go_ret2;obtain ⟨z1,z2,z3,z4⟩:=HFIN.out _ HM.out HF2.out HB.out;exact ⟨_,_,rfl,z1,z2,z3,z4⟩
section
variable {P : Program} {Q : Exit -> Act -> World -> Prop}
theorem opIn_of {l n:Nat} {o:Oper} {a:Act} {w:World} {K:Act->World->Prop} (hd: ∀c,o.op≠ .defer c) (h:o.wp P a w K Q):o.wpIn (Fence.wide.inRound l) n P a w K Q:=by
 refine ⟨fun _ _=>trivial,?_⟩;rw [Oper.semAt_eq _ _ _ hd];unfold Oper.wp at h;generalize (execOp a.eval o).run P w=r at h
 cases r with
 |ok x w'=>
  cases x with
  |value v=>exact h
  |skip=>exact h
  |defer d=>exact h
  |enter f args=>exact ⟨fun hh=>(by cases hh),CallsIn.inRound l (callsIn_wide.2 h)⟩
  |row row args=>
   refine ⟨fun hh=>(by cases hh),fun c cs _=> ?_⟩;obtain ⟨v,w2,r1,s1⟩:=h c cs;exact ⟨v,w2,r1,stepsIn_wide.2 s1⟩
  |_=>exact h.elim
 |halt hh w'=>
  cases hh with
  |panic v=>exact h
  |_=>exact h.elim
def noDefer (ops:Array Oper):Bool:=ops.all fun o=>match o.op with | .defer _=>false|_=>true
theorem noDefer_spec {ops:Array Oper} (h:noDefer ops=true) {i:Nat} {o:Oper} (ho:ops[i]?=some o) (c:Call):o.op≠ .defer c:=by
 obtain ⟨hi,rfl⟩:=Array.getElem?_eq_some_iff.1 ho;have:=Array.all_eq_true.1 h i hi;intro e;rw [e] at this;cases this
theorem ekz {l n:Nat} {md:Region.Mode} {ops:Array Oper} (hnd:noDefer ops=true) (hq: ¬LetsOut Q): ∀(fuel:Nat) (listed:Array Bool) (a:Act) (w:World),wpAny P md ops Q fuel listed a w->wpAnyIn (Fence.wide.inRound l) n P md ops Q fuel listed a w
 |0,_,_,_,h=>h
 |fuel+1,listed,a,w,h=>by
  refine ⟨h.1,fun i hi=> ?_⟩;have h2:=h.2 i hi;unfold wpOp at h2;unfold wpOpIn;split at h2
  ·rename_i e
   rw [e];exact ekz hnd hq fuel _ _ _ h2
  ·rename_i o e
   rw [e];dsimp only;split at h2
   ·rename_i hw
    rw [Ya hw];rcases h2 with h2|h2
    ·exact opIn_of (noDefer_spec hnd e) (Oper.wp_mono (fun a' w' h'=>ekz hnd hq fuel _ a' w' h') h2)
    ·exact Yf h2.2 hq
   ·rename_i hw
    rw [Yb hw];exact ⟨fun _ _=>trivial,ekz hnd hq fuel _ _ _ h2⟩
theorem startIn_ {l n : Nat} {ops : Array Oper} {S : World -> Prop} {ds : List Nat} {id m : Nat} {a : Act} {w : World} (L : Array Bool) (hm : P.follows .mixedOrders = true) (hn : ops.size = m) (hl : Array.replicate m false = L) (hnd : noDefer ops = true) (hq : ¬ LetsOut Q) (hS : S w.drew)
  (h:S w.drew->wpAnyLast P .any ops Q S ds m L a w.drew):(Code.region id ops true).wpIn (Fence.wide.inRound l) n P Q a w:=by
 subst hn;subst hl;exact wpIn_region_any hm (ekz hnd hq _ _ _ _ (ehz _ _ _ _ (h hS)))
end
end Go.Proofs.Xc
end
section
namespace Go.Proofs.Xc
open Go.RowKit Go.Proofs.Pw Go.Proofs.Pl Go.Proofs.Pm
attribute [local go_sem] a7z a8z bjz bkz aZz a0z a9z baz
attribute [local go_sem] Oper.semAt_some
def mulF (wb:Int) (a b:List (List Int)) (co:Nat):List (List Int):=a.map fun row=>(transp b co).map fun col=>dotF wb row col 0
theorem matrix_Mul.calls (g : Nat) (wb : Int) (S : Nat -> Prop) (A B : Option Addr) (ca cb co : Nat) (a b_ : List (List Int)) (W : World) (hw : wb = 8 \/ wb = 16) (hMa : MayOk wb a b_.length) (hMb : MayOk wb b_ co) (hF : Fd W g wb (fpoly wb) S) (hS : ∀ k, S k -> k < W.heap.size)
  (ha:Kd.F (dM 3 .i64) W (NotG g) A a.length a) (hb:Kd.F (dM 3 .i64) W (NotG g) B b_.length b_):
  Calls Tryz.prog 161 #[.pointer (some ⟨g,0,none⟩), .slice A a.length ca, .slice B b_.length cb] W fun e w'=> ∃v,e= .returned (.tuple #[v, .int .i64 0])/\Kd.S (dM 3 .i64) 57 w' W.heap.size (fun _=>True) v (mulF wb a b_ co)/\Fd w' g wb (fpoly wb) S/\BB W w' g:=by
 have HMA:=Za hMa;have HMB:=Za hMb;have HW:=Za hw;have HF:=Za hF;have HS:=Za hS;have HA:=Za ha;have HB:=Za hb;obtain ⟨r0,hr0⟩: ∃r,a[0]?=some r:=⟨_,Zf (by have:=hMa.n1;omega)⟩;obtain ⟨ad,A1,c1,rfl, -, -, -⟩:=b5z (Kd.F_now ha) 0 r0 hr0;have hrl:=(hMa.each r0 (Zo hr0)).1;have HR0:=Za hr0;have na:(0:Int)<(a.length:Int):=by have:=hMa.n1;omega
 have na20:a.length<=20:=hMa.n2;obtain ⟨n,hn⟩: ∃n,n=a.length:=⟨_,rfl⟩;obtain ⟨m,hm⟩: ∃m,m=b_.length:=⟨_,rfl⟩;have HN:=Za hn;have HM:=Za hm;have HL0:=Za hrl;rw [<-hn] at na na20|-;rw [<-hm];have hself:((m:Int) !=(m:Int))=false:=by simp
 clear hw hMa hMb hF hS ha hb hr0 hrl hn hm;refine (callsIn_wide (n:=8)).1 (callsIn_of_wp_marks Tryz.func161 rfl trivial (wpIn_wide.2 ?_) rfl);simp only [Tryz.ntmps161,List.size_toArray,List.length_cons,List.length_nil,Nat.reduceAdd,Nat.reduceSub,Array.replicate_succ,Array.replicate_zero,List.push_toArray,List.append_toArray,List.nil_append,List.cons_append];have HMY1:=Za (fun W1 (h:Below W.heap.size W W1)=>dxz.ok g S wb (fpoly wb) (some ad) ca m a W1 HW.out (HM.out▸HMA.out) (HF.out.below h) (Kd.azz (Kd.F_now HA.out) h));have HMY2:=Za (fun W1 (h:Below W.heap.size W W1)=>dxz.ok g S wb (fpoly wb) B cb co b_ W1 HW.out HMB.out (HF.out.below h) (Kd.azz (Kd.F_now HB.out) h));rw [<-HN.out] at HMY1;rw [<-HM.out] at HMY2;have HBX:=Za (show Below W.heap.size W (W.alloc (.cells #[.pointer (some ⟨g,0,none⟩)] 72)) from alz (Zw _ _) _);have hbx:(W.alloc (.cells #[.pointer (some ⟨g,0,none⟩)] 72)).heap[W.heap.size]?=some (.cells #[.pointer (some ⟨g,0,none⟩)] 72 (0,0)):=heap_alloc_new _ _
 go_wp2_with fail
 generalize W.alloc (.cells #[.pointer (some ⟨g,0,none⟩)] 72)=w1 at HBX hbx|-;have HX:=Za hbx;refine (HMY1.out w1 HBX.out).mono ?_;rintro e w2 ⟨rfl,hB2⟩;have HB2:=Za (HBX.out.trans (hB2.mono HBX.out.size));have HX2:=Za (awz HX.out hB2);have hx2:w2.cell? ⟨W.heap.size,0,none⟩=some (.pointer (some ⟨g,0,none⟩)):=(aaz HX2.out 0).trans rfl;clear hB2 hbx HMY1
 go_wp2_with fail
 refine (HMY2.out w2 HB2.out).mono ?_;rintro e w3 ⟨rfl,hB3⟩;have HB3:=Za (HB2.out.trans (hB3.mono HB2.out.size));have HX3:=Za (awz HX2.out hB3);have hx3:w3.cell? ⟨W.heap.size,0,none⟩=some (.pointer (some ⟨g,0,none⟩)):=(aaz HX3.out 0).trans rfl;obtain ⟨ad',A2,c2,he,hcell, -, -⟩:=b5z (Kd.azz (Kd.F_now HA.out) HB3.out) 0 r0 HR0.out;obtain rfl:ad=ad':=Zn he;rw [cXz,HL0.out, <-HM.out] at hcell;clear hB3 hx2 HMY2 he;go_wp2
 refine wp_loop (fun a' wr=> ∃(u8 u10 u11 u12 u34 u35 u36 u37 u38 u39 u40 u41 u42 u43 u44 u45 u46 u47 u48 u49 u50 u51 u52 u53:Value) (k:Nat) (Ds:List Nat),a'= { tmps:= #[.pointer (some ⟨g,0,none⟩), .slice (some ad) n ca, .slice B m cb, .pointer (some ⟨W.heap.size,0,none⟩),undef,undef, .slice none 0 0, .int .i64 0,u8,undef,u10,u11,u12, .pointer (some ⟨g,0,none⟩), .slice (some ad) n ca, .bool true, .bool false, .bool false, .pointer (some ⟨g,0,none⟩), .slice B m cb, .bool true, .bool false, .bool false, .bool false, .slice (some ad) n ca, .pointer (some ad), .slice A2 m c2, .int .i64 (m:Int), .slice B m cb, .int .i64 (m:Int), .bool false, .bool false, .slice (some ad) n ca, .int .i64 (n:Int),u34,u35,u36,u37,u38,u39,u40,u41,u42,u43,u44,u45,u46,u47,u48,u49,u50,u51,u52,u53],defers:=Ds.map fun D=> { target:= .collected D,args:= #[] } } /\u34= .int .i64 (k:Int)/\k<=n/\Ds.Nodup/\
  Aside0 ((∀D,D∈Ds->wr.heap[D]?=some (.deferred (some [])))/\(∀D,D∈Ds->W.heap.size<D))/\Aside0 (Kd.S (dM 3 .i64) 57 wr W.heap.size (fun _=>True) u8 (mulF wb (a.take k) b_ co))/\Aside0 (Fd wr g wb (fpoly wb) (fun k=>S k\/k=W.heap.size\/some k=u8.ownBlock))/\Aside0 (BB W wr g)/\Aside0 (wr.heap[W.heap.size]?=some (.cells #[.pointer (some ⟨g,0,none⟩)] 72 (0,0)))) (fun a' _=>n - (intOf (a'.tmps.getD 34 undef)).toNat) ?atStart ?round
 case atStart=>exact ⟨.slice none 0 0,undef,undef,undef, .int .i64 0,undef,undef,undef,undef,undef,undef,undef,undef,undef,undef,undef,undef,undef,undef,undef,undef,undef,undef,undef,0, [],rfl,rfl,by omega,List.nodup_nil,⟨fun _ h=>by simp at h,fun _ h=>by simp at h⟩,⟨Kd.S_nil _ _ _ _ _⟩,⟨((HF.out.more).below HB3.out).thin (fun k _ hs=>hs.elim .inl (fun h=>h.elim (fun e=> .inr (by omega)) (fun e=>by simp [Value.ownBlock] at e)))⟩,⟨BB.of_below HB3.out g⟩,HX3⟩
 clear hcell hx3;rintro a' wr ⟨u8,u10,u11,u12,u34,u35,u36,u37,u38,u39,u40,u41,u42,u43,u44,u45,u46,u47,u48,u49,u50,u51,u52,u53,k,Ds,rfl,rfl,hk,hnd,HD,HO,HFd,HBB,HXb⟩;by_cases hlt:k<n
 ·obtain ⟨row,hrow⟩: ∃r,a[k]?=some r:=⟨_,Zf (by have:=HN.out;omega)⟩;have hFa:=F_bb HA.out HBB.out;obtain ⟨A',c',hcr,hle,hFr⟩:=row_atF hFa k row hrow;have i1:(0:Int)<=(k:Int):=by omega
  have i2:(k:Int)<(n:Int):=by omega
  have HFR:=Za hFr;have HRW:=Za hrow;have hrl:=(HMA.out.each row (Zo hrow)).1;rw [<-HM.out] at hrl;have HRL:=Za hrl;have hle2:m<=c':=by omega
  rw [hrl] at hcr;clear hFa hrow hrl hle hFr;have hcs:=columns.calls B m cb
  go_wp2_with (first|(go_at_call 184;refine (hcs _).mono ?_;rintro e w' ⟨rfl,rfl⟩))
  have hX10:(((wr.alloc (.cells #[.slice A' m c'] 57)).alloc (.cells #[.slice none 0 0] 57)).alloc (.cells #[.slice B m cb] 69)).heap[wr.heap.size]?=some (.cells #[.slice A' m c'] 57 (0,0)):=aEz (aEz (b7z wr _) _) _;have hX11:(((wr.alloc (.cells #[.slice A' m c'] 57)).alloc (.cells #[.slice none 0 0] 57)).alloc (.cells #[.slice B m cb] 69)).heap[wr.heap.size+1]?=some (.cells #[.slice none 0 0] 57 (0,0)):=aEz (bBz _ _ _ (by simp)) _;have hX12:(((wr.alloc (.cells #[.slice A' m c'] 57)).alloc (.cells #[.slice none 0 0] 57)).alloc (.cells #[.slice B m cb] 69)).heap[wr.heap.size+1+1]?=some (.cells #[.slice B m cb] 69 (0,0)):=bBz _ _ _ (by simp);have hB4:Below wr.heap.size wr (((wr.alloc (.cells #[.slice A' m c'] 57)).alloc (.cells #[.slice none 0 0] 57)).alloc (.cells #[.slice B m cb] 69)):=cLz (cLz (alz (Zw _ _) _) (alz (Zw _ _) _)) (alz (Zw _ _) _);have hsz:(((wr.alloc (.cells #[.slice A' m c'] 57)).alloc (.cells #[.slice none 0 0] 57)).alloc (.cells #[.slice B m cb] 69)).heap.size=wr.heap.size+1+1+1:=by simp
  generalize ((wr.alloc (.cells #[.slice A' m c'] 57)).alloc (.cells #[.slice none 0 0] 57)).alloc (.cells #[.slice B m cb] 69)=w4 at *
  obtain ⟨b,hb⟩: ∃b,b=wr.heap.size:=⟨_,rfl⟩;rw [<-hb] at hX10 hX11 hX12 hsz|-;have HX10:=Za hX10;have HX11:=Za hX11;have HX12:=Za hX12;have HB4:=Za hB4;have HSZ:=Za hsz;have HWB:=Za (show W.heap.size<b from hb▸aPz HXb.out);have hgl:g<W.heap.size:=HF.out.lt
  have HFB:=Za (show Kd.F (dM 3 .i64) w4 (fun k=> ¬(k=g\/k=b+1)) B b_.length b_ by
   have h1:=Kd.dwz HB.out;have h2:=Kd.cmz (W1:=wr) h1 (fun k hk hlt=>HBB.out.block k hlt hk.1);have h3:=Kd.cEz h2 (show Below wr.heap.size wr w4 from hB4)
   exact Kd.bZz h3 (fun k hk h=>h.elim hk.1 (fun e=>by have:=hk.2;have:=HWB.out;omega)))
  have HFR4:=Za (show Kd.F (Kd.int .i64) w4 (fun k=>k≠g/\k<b) A' row.length row from by
   rw [hb]
   exact Kd.cEz (Kd.dwz HFR.out) hB4)
  have HXb4:=Za (awz HXb.out hB4);have HF4:=Za (((HFd.out.more).below hB4).thin (S':=fun k=>(S k\/k=W.heap.size\/some k=u8.ownBlock)\/k=b+1\/some k=(Value.slice none 0 0).ownBlock) (fun k _ hs=>hs.elim .inl (fun h=>h.elim (fun e=> .inr (by omega)) (fun e=>by simp [Value.ownBlock] at e))));have HBE:=Za hb;clear hcs hcr hX10 hX11 hX12 hB4 hb;refine (wpIn_wide (n:=8)).1 ?_
  refine fkz (α:=List Int×Nat) rfl (by omega) (gf:=196) (lb:= #[.pointer (some ⟨b+1+1,0,none⟩)]) rfl trivial (enters_of Tryz.func196 kr_ rfl)
   (columns_seq (b+1+1) w4.heap.size co cb (fun k=>k=g\/k=b+1) B b_ w4 w4 ?hf (Zv _) (Zv _) ⟨Zv _,fun _ _ _=>rfl⟩ HMB.out.n1 (by have:=HMB.out.n2;omega) (fun r hr=>(HMB.out.each r hr).1) (by have:=HMB.out.c2;omega) ?hx12 (by omega) (by have:=HWB.out;omega)) KpX.trans ?hKb (Zw _ _) (fun _=>rfl)
   (fun pre Wx=> ∃v,Wx.heap[b+1]?=some (.cells #[v] 57 (0,0))/\(Kd.int .i64).R 3 Wx w4.heap.size (fun _=>True) v (pre.map fun x=>dotF wb row x.1 0)/\Fd Wx g wb (fpoly wb) (fun k=>(S k\/k=W.heap.size\/some k=u8.ownBlock)\/k=b+1\/some k=v.ownBlock)/\BS w4 Wx g (fun k=>k=b+1))
   ?hI ?hHd ?h0 (fun x=> { tmps:= #[.pointer (some ⟨g,0,none⟩), .slice (some ad) n ca, .slice B m cb, .pointer (some ⟨W.heap.size,0,none⟩),undef,undef, .slice none 0 0, .int .i64 0,u8,undef, .pointer (some ⟨b,0,none⟩), .pointer (some ⟨b+1,0,none⟩), .slice (some ⟨x.2,0,none⟩) x.1.length x.1.length, .pointer (some ⟨g,0,none⟩), .slice (some ad) n ca, .bool true, .bool false, .bool false, .pointer (some ⟨g,0,none⟩), .slice B m cb, .bool true, .bool false, .bool false, .bool false, .slice (some ad) n ca, .pointer (some ad), .slice A2 m c2, .int .i64 (m:Int), .slice B m cb, .int .i64 (m:Int), .bool false, .bool false, .slice (some ad) n ca, .int .i64 (n:Int), .int .i64 (k:Int), .bool true, .pointer (some (ad.add k)), .slice A' m c', .slice B m cb, .func (.func 196) #[] #[.pointer (some ⟨b+1+1,0,none⟩)], .slice (some ⟨x.2,0,none⟩) x.1.length x.1.length,u41,u42,u43,u44,u45,u46,u47,u48,u49,u50,u51,u52,u53],defers:= [] }) ?assign ?body ?done
  case hf=>exact HFB.out
  case hx12=>rw [<-HM.out];exact HX12.out
  case hKb=>exact fun Wx l o o' hl ho _=>⟨(grownBy_putObj' Wx l o').size,fun k hk _=>World.putObj_heap_other (by omega)⟩
  case hI=>
   rintro s X Y r ⟨v,h1,h2,h3,h4⟩ hg hr;have hr': ∀q,r=some q-> ∃o:Obj,X.heap[q]?=some o/\o.isCells=false:=fun q e=>(hr q e).2
   exact ⟨v,(grownBy_keeps_cells hg hr' h1 rfl).trans h1,e0z h2 hg hr',Fd_noncells h3 hg hr',⟨hg.os.trans h4.os,hg.tape.trans h4.tape,hg.output.trans h4.output,Zt h4.size hg.size,fun i hi hgi hs=>(hg.block i (Zp hi h4.size) (fun e=>by have:=(hr i e.symm).1;omega)).trans (h4.block i hi hgi hs)⟩⟩
  case hHd=>
   rintro x - X Y r ⟨h0,h1⟩ hg hr;exact ⟨h0,(grownBy_keeps_cells hg (fun q e=>(hr q e).2) h1 rfl).trans h1⟩
  case h0=>exact ⟨_,HX11.out,Kd.R_nil _ _ _ _ _,HF4.out,BS.refl _ _ _⟩
  case assign=>
   intro l x Wx K hK
   gi_wp2
   exact hK
  case body=>
   rintro l pre ⟨col,cbk⟩ Wx ⟨v,h1,h2,h3,h4⟩ ⟨hx0,hx1⟩ hlen;dsimp only at hx0 hx1;have hgl4:g<w4.heap.size:=by have:=HWB.out;omega
   have hc11:Wx.cell? ⟨b+1,0,none⟩=some v:=(aaz h1 0).trans rfl;have hc3:Wx.cell? ⟨W.heap.size,0,none⟩=some (.pointer (some ⟨g,0,none⟩)):=(aaz (h4.blk HXb4.out (by omega) (by have:=HWB.out;omega)) 0).trans rfl;have hc10:Wx.cell? ⟨b,0,none⟩=some (.slice A' m c'):=(aaz (h4.blk HX10.out (by have:=HWB.out;omega) (by omega)) 0).trans rfl;obtain ⟨gcs,hgcs⟩:=h3.cells;have hFrow:Kd.F (Kd.int .i64) Wx (NotG g) A' row.length row:=Kd.bZz (Kd.cmz HFR4.out (fun k hk hlt=>h4.block k hlt hk.1 (by have:=hk.2;omega))) (fun k hk=>hk.1);have hFcol:=F_block hgcs (by decide) hx1 (by rw [hx0];have:=HMB.out.n2;omega)
   have hSS: ∀k,((S k\/k=W.heap.size\/some k=u8.ownBlock)\/k=b+1\/some k=v.ownBlock)->k<Wx.heap.size:=by
    have s1:=h4.size;have s2:=HWB.out;have s3:=HBE.out;rintro k ((hk|hk|hk)|hk|hk)
    ·have:=HS.out k hk;omega
    ·omega
    ·have:=Kd.R_lt (Kd.S_R HO.out) k hk.symm;omega
    ·omega
    ·exact Kd.R_lt h2 k hk.symm
   have hdot:=matrix_dot.calls g _ wb A' (some ⟨cbk,0,none⟩) c' col.length row col Wx.drew HW.out (Fd.drew h3) hSS (by rw [HRL.out];have:=HMB.out.n2;have:=HM.out;omega) (by rw [HRL.out,hx0,HM.out];exact Zv _) (Kd.F_drew hFrow) (Kd.F_drew hFcol);rw [HRL.out] at hdot;have HDOT:=Za hdot;have hbase:=Kd.bIz h2
   have HEND := Za (show ∀ w6, Fd w6 g wb (fpoly wb) (fun k => (S k \/ k = W.heap.size \/ some k = u8.ownBlock) \/ k = b + 1 \/ some k = v.ownBlock) -> BB Wx w6 g -> ∃ v1 w7, (∃ ua nn uc, v1 = .slice ua nn uc) /\ (Builtin.append_ #[57, 57] 57 #[v, .slice (some ⟨w6.heap.size, 0, none⟩) 1 1]).run Tryz.prog (w6.alloc (.cells #[.int .i64 (dotF wb row col 0)] 3)) = .ok v1 w7 /\
     w6.cell? ⟨b+1,0,none⟩=some v/\w6.cell? ⟨W.heap.size,0,none⟩=some (.pointer (some ⟨g,0,none⟩))/\w6.cell? ⟨b,0,none⟩=some (.slice A' m c')/\w7.cell? ⟨b+1,0,none⟩=some v/\w7.frozen? ⟨b+1,0,none⟩=false/\
     (KeepsFrom w4.heap.size Wx (w7.setCell ⟨b+1,0,none⟩ v1)/\KpX w4.heap.size (fun k=>k=g\/k=b+1) Wx (w7.setCell ⟨b+1,0,none⟩ v1)/\
      ∃v',(w7.setCell ⟨b+1,0,none⟩ v1).heap[b+1]?=some (.cells #[v'] 57 (0,0))/\(Kd.int .i64).R 3 (w7.setCell ⟨b+1,0,none⟩ v1) w4.heap.size (fun _=>True) v' ((pre++ [(col,cbk)]).map fun x=>dotF wb row x.1 0)/\Fd (w7.setCell ⟨b+1,0,none⟩ v1) g wb (fpoly wb) (fun k=>(S k\/k=W.heap.size\/some k=u8.ownBlock)\/k=b+1\/some k=v'.ownBlock)/\BS w4 (w7.setCell ⟨b+1,0,none⟩ v1) g (fun k=>k=b+1)) by
    intro w6 q1 q3;have s1:=h4.size;have s2:=HWB.out;have s3:=q3.size;have g1:w6.heap[b+1]?=some (.cells #[v] 57 (0,0)):=(q3.block _ (aPz h1) (by omega)).trans h1;have r0:=Kd.aJz (Kd.dpz (w1:=w6) (Kd.c5z h2 hgcs (by decide)) (fun k hk hlt=>q3.block k hlt hk.2)) (ok':=fun _=>True) (fun _ _=>trivial);obtain ⟨v1,w7,hrun,r7,g7,a7⟩:=append_int_run (dotF wb row col 0) r0 (by omega) (by have:=HMB.out.c2;simp;omega);have hne:some (b+1)≠v.ownBlock:=fun e=>by have:=hbase _ e.symm;omega
    have g2:w7.heap[b+1]?=some (.cells #[v] 57 (0,0)):=(g7.block _ (aPz g1) hne).trans g1;have hsc: ∀k,k≠b+1->(w7.setCell ⟨b+1,0,none⟩ v1).heap[k]?=w7.heap[k]?:=fun k hk=>Below.heap_setCell w7 ⟨b+1,0,none⟩ v1 k hk
    have hfar: ∀k,k<w4.heap.size->k≠g->k≠b+1->(w7.setCell ⟨b+1,0,none⟩ v1).heap[k]?=Wx.heap[k]?:=fun k hk hkg hkb=>(hsc k hkb).trans ((g7.block k (by omega) (fun e=>by have:=hbase _ e.symm;omega)).trans (q3.block k (by omega) hkg))
    have hsl: ∃ua nn uc,v1= .slice ua nn uc:=by obtain ⟨ua,uc,h⟩:=Kd.aRz r7;exact ⟨ua,_,uc,h⟩
    refine ⟨v1,w7,hsl,hrun,(aaz g1 0).trans rfl,?_,?_,(aaz g2 0).trans rfl,a6z g2 0,?_,?_,v1,cqz g2 0 v1 rfl,?_,?_,?_⟩
    ·exact (World.cell?_of_block (q3.block _ (Zj _ _ hc3) (by show W.heap.size≠g;omega))).trans hc3
    ·exact (World.cell?_of_block (q3.block _ (Zj _ _ hc10) (by show b≠g;omega))).trans hc10
    ·refine ⟨by have:=g7.size;simp;omega,fun k o hk hko hno=> ?_⟩;have n1:k≠g:=by rintro rfl;rw [hgcs] at hko;cases hko;cases hno
     have n2:k≠b+1:=by rintro rfl;rw [h1] at hko;cases hko;cases hno
     have hk6:w6.heap[k]?=some o:=(q3.block k (aPz hko) n1).trans hko
     have n3:some k≠v.ownBlock:=fun e=>by
      obtain ⟨cells,hc⟩:=Kd.dNz r0 k e.symm;rw [hc] at hk6;cases hk6;cases hno
     exact (hsc k n2).trans ((g7.block k (aPz hk6) n3).trans hk6)
    ·exact ⟨by have:=g7.size;simp;omega,fun k hk he=>hfar k hk (fun e=>he (.inl e)) (fun e=>he (.inr e))⟩
    ·rw [List.map_append];exact Kd.aJz (Kd.cyz (Kd.bTz r7) (fun k hk=>hsc k (by have:=hk.2.1;omega))) (fun _ _=>trivial)
    ·refine ((q1.grow (fun k e=> .inr (.inr e.symm)) g7).set (q:=⟨b+1,0,none⟩) (.inl (.inr (.inl rfl))) v1).thin (fun k hk hs=> ?_);rcases hs with hs|hs|hs
     ·exact .inl (.inl hs)
     ·exact .inl (.inr (.inl hs))
     ·rcases a7 with a7|⟨bb,a7,hbb⟩
      ·exact .inl (.inr (.inr (hs.trans a7)))
      ·rw [a7] at hs;cases hs;exact .inr hbb
    ·exact ⟨g7.os.trans (q3.os.trans h4.os),g7.tape.trans (q3.tape.trans h4.tape),g7.output.trans (q3.output.trans h4.output),by have:=g7.size;simp;omega,fun k hk hkg hs=>(hfar k hk hkg hs).trans (h4.block k hk hkg hs)⟩)
   have hmo:Tryz.prog.follows .mixedOrders=true:=by kernel_rfl
   clear h1 h2 h3 h4 hx0 hx1 hlen hgcs hFrow hFcol hSS hdot hbase hgl4
   gi_wp2
   refine startIn_ (m:=8) (S:=fun w'=>w'.cell? ⟨b+1,0,none⟩=some v/\w'.cell? ⟨W.heap.size,0,none⟩=some (.pointer (some ⟨g,0,none⟩))/\w'.cell? ⟨b,0,none⟩=some (.slice A' m c')) (ds:= [6,7]) (bA 8 0) kr_ rfl rfl kr_ (by rintro ⟨_,_,h⟩;exact h) ⟨hc11,hc3,hc10⟩ (fun hHeld=> ?_);refine pu_ 3 44 8 ?_;refine tk_ 0 41 9 hHeld ?_;refine tk_ 1 42 11 hHeld ?_;refine tk_ 2 43 15 hHeld ?_;refine one_ (i:=4) (N:=some 45) (bA 8 31) rfl rfl kr_ (by decide) (fun K hK=> ?_);refine goes_ Tryz.func185 kr_ rfl #[.pointer (some ⟨g,0,none⟩), .slice A' m c', .slice (some ⟨cbk,0,none⟩) col.length col.length] (by rfl) rfl rfl am_ ?_
   with_reducible refine (HDOT.out).mono ?_
   rintro e w6 ⟨rfl,q1,q2⟩;refine ⟨_,rfl,?_⟩;obtain ⟨v1,w7,⟨ua,nn,uc,rfl⟩,hrun,r1,r2,r3,r4,r5,r6⟩:=HEND.out w6 q1 ⟨q2.os,q2.tape,q2.output,q2.size,q2.block⟩;have R6:=Za r6;clear q1 q2 r6;refine hK.out _ _ ⟨r1,r2,r3⟩ (fun hHeld=> ?_);clear hK K;refine norm_ (a':= ?_) ?_ ?_;rotate_left
   ·show Act.put _ (some 45) _=_;simp only [Act.put,Zg,Zh,Zi,i64_w,i32_w];rfl
   refine one_ (i:=5) (N:=some 46) (bA 8 63) rfl rfl kr_ (by decide) (fun K hK=> ?_);refine cez (w1:= ?_) (v:= ?_) (by rfl) rfl ?_ ?_;rotate_left 2
   ·go_simp;constructor
    ·rfl
    ·rfl
   refine hK.out _ _ ⟨(World.cell?_alloc_past _ _ _ (Zj _ _ r1)).trans r1,(World.cell?_alloc_past _ _ _ (Zj _ _ r2)).trans r2,(World.cell?_alloc_past _ _ _ (Zj _ _ r3)).trans r3⟩ (fun hHeld=> ?_);clear hK K;refine norm_ (a':= ?_) ?_ ?_;rotate_left
   ·show Act.put _ (some 46) _=_;simp only [Act.put,Zg,Zh,Zi,i64_w,i32_w];rfl
   refine last_ (i:=6) (N:=some 47) (bA 8 127) rfl rfl kr_ (by decide) (fun K hK=> ?_);refine cez (w1:=w7) (v:= .slice ua nn uc) (by rfl) rfl (by simp [execOp,resolve,Deferred.ofValue,invoke,builtin,Act.eval,hrun,Result.andThen]) ?_;refine hK.out _ _ ?_;clear hK K;refine norm_ (a':= ?_) ?_ ?_;rotate_left
   ·show Act.put _ (some 47) _=_;simp only [Act.put,Zg,Zh,Zi,i64_w,i32_w];rfl
   refine last_ (i:=7) (N:=none) (bA 8 255) rfl rfl kr_ (by decide) (fun K hK=> ?_);refine skip_ (w1:= ?_) (by rfl) rfl ?_ ?_;rotate_left
   ·go_simp;rfl
   refine hK.out _ _ ?_;clear hK K;refine done_ kr_ ?_;exact R6.out
  case done=>
   rintro D xs Wx hD hxs ⟨v,h1,h2,h3,h4⟩ hDd;have hmap:(xs.map fun x=>dotF wb row x.1 0)=(transp b_ co).map fun col=>dotF wb row col 0:=by rw [<-hxs,List.map_map];rfl
   rw [hmap] at h2;have hRl:((transp b_ co).map fun col=>dotF wb row col 0).length=co:=by simp [transp]
   have HZ:=Za (show mulF wb (a.take (k+1)) b_ co=mulF wb (a.take k) b_ co++ [(transp b_ co).map fun col=>dotF wb row col 0] by
    unfold mulF
    rw [List.take_add_one,HRW.out];simp)
   generalize ((transp b_ co).map fun col=>dotF wb row col 0)=R at h2 hRl HZ;obtain ⟨va,vc,rfl⟩:=Kd.aRz h2;rw [hRl] at h1 h2 h3;have s1:=h4.size;have s2:=HWB.out;have s3:=HBE.out;obtain ⟨gcs,hgcs⟩:=HFd.out.cells;have hlz:(mulF wb (a.take k) b_ co).length<=1000:=by simp [mulF];omega
   have HLZ:=Za hlz;have hwx: ∀q,q<b->q≠g->Wx.heap[q]?=wr.heap[q]?:=fun q hq hqg=>(h4.block q (by omega) hqg (by omega)).trans (HB4.out.block q (by omega))
   have HS1:=Za (show Kd.S (dM 3 .i64) 57 Wx W.heap.size (fun k'=>True/\ ¬b<=k') u8 (mulF wb (a.take k) b_ co) from
    Kd.cGz (Kd.ebz (Kd.bFz (Kd.eoz HO.out hgcs (by decide))) (fun q hq=>hwx q (by have:=hq.2.2.1;omega) hq.1.2)) (fun q hq=>⟨trivial,by have:=hq.2.2.1;omega⟩))
   have HM1:=Za (show (dM 3 .i64).M Wx W.heap.size (fun k'=>b<=k') R [.slice va co vc] from ⟨_,rfl,Kd.bDz (Kd.aJz (Kd.bTz h2) (fun q hq=>by have:=hq.2.1;omega)) (by omega)⟩);have HOK:=Za (show∀k',b<=k'->True/\some k'≠u8.ownBlock from fun q hq=>⟨trivial,fun e=>by have:=Kd.R_lt (Kd.S_R HO.out) q e.symm;omega⟩);have hc11:Wx.cell? ⟨b+1,0,none⟩=some (.slice va co vc):=(aaz h1 0).trans rfl;have H3:=Za h3;have HWX:=Za hwx;have H4:=Za h4;have HDD:=Za hDd;have HDN:=Za hD;have HSW:=Za (show W.heap.size<=Wx.heap.size by omega);clear h1 h2 h3 h4 hxs hmap hRl hgcs hlz hwx hDd hD s1 s2 s3;simp only [Exit.inBlock,Exit.then]
   go_wp2_with ((with_reducible refine anz (b:= .append) (xs:= #[.tmp 48, .tmp 50]) rfl ?_);go_must (at_builtin;refine Kd.bLz (dM 3 .i64) (w0:=Wx) W.heap.size rfl (.tmp 48) (.tmp 50) 69 57 (.slice none 0 0) 24 rfl Tryz.underlying69 kr_ rfl (by decide) (by decide) _ _ R [.slice va co vc] (fun _=>True) (fun k'=>b<=k') rfl rfl HM1.out HOK.out (fun _ _=>trivial) HS1.out (Zw _ _) HSW.out ?aL ?_;(case aL=>have:=HLZ.out;omega));intro v2 w8 ho2 hb2 hg2 hat2;have HO2:=Za ho2;have HB2:=Za hb2;have HG2:=Za hg2;have HA2:=Za hat2;clear ho2 hb2 hg2 hat2)
   have hg:Wx.grownBy w8 u8.ownBlock:=HG2.out;have hat:v2.ownBlock=u8.ownBlock\/ ∃b,v2.ownBlock=some b/\Wx.heap.size<=b:=HA2.out;have s1:=H4.out.size;have s2:=HWB.out;have s3:=HBE.out;have hty:=Kd.bNz HS1.out;obtain ⟨gcs,hgcs⟩:=HFd.out.cells
   have hDo:some D≠u8.ownBlock:=fun e=>by
    obtain ⟨cells,hc⟩:=hty D e.symm;have h:=HDD.out;rw [hc] at h;cases h
   have hDs: ∀D',D'∈Ds->w8.heap[D']?=some (.deferred (some []))/\D'<b:=fun D' hD'=>by
    have h1:=HD.out.1 D' hD';have h2:=aPz h1;have h3:D'≠g:=by rintro rfl;rw [hgcs] at h1;cases h1
    have h4:=(HWX.out D' (by omega) h3).trans h1
    have h5:some D'≠u8.ownBlock:=fun e=>by
     obtain ⟨cells,hc⟩:=hty D' e.symm;rw [hc] at h4;cases h4
    exact ⟨(hg.block D' (aPz h4) h5).trans h4,by omega⟩
   have hXx:Wx.heap[W.heap.size]?=some (.cells #[.pointer (some ⟨g,0,none⟩)] 72 (0,0)):=(HWX.out _ (by omega) (by omega)).trans HXb.out
   have hXo:some W.heap.size≠u8.ownBlock:=fun e=>by
    obtain ⟨cells,hc⟩:=hty _ e.symm;rw [hc] at hXx;injection hXx with hXx
    injection hXx with _ hXx
    exact Yf hXx (by decide)
   have hbs:=Kd.bIz (Kd.S_R HS1.out);refine ⟨⟨_,_,_,_,_,_,_,_,_,_,_,_,_,_,_,_,_,_,_,_,_,_,_,_,k+1,D::Ds,rfl,rfl,by omega,List.nodup_cons.2 ⟨fun h=>by have:=(hDs D h).2;have:=HDN.out;omega,hnd⟩,⟨fun D' hD'=> ?_,fun D' hD'=> ?_⟩,⟨by rw [HZ.out];exact HO2.out⟩,⟨?_⟩,⟨?_⟩,⟨(hg.block _ (aPz hXx) hXo).trans hXx⟩⟩,by simp [intOf];omega⟩
   ·rcases List.mem_cons.1 hD' with rfl|hD'
    ·exact (hg.block _ (aPz HDD.out) hDo).trans HDD.out
    ·exact (hDs D' hD').1
   ·rcases List.mem_cons.1 hD' with rfl|hD'
    ·have:=HDN.out;omega
    ·exact HD.out.2 D' hD'
   ·refine (H3.out.grow (fun k e=> .inl (.inr (.inr e.symm))) hg).thin (fun q hq hs=> ?_);rcases hs with hs|hs|hs
    ·exact .inl (.inl (.inl hs))
    ·exact .inl (.inl (.inr (.inl hs)))
    ·rcases hat with hat|⟨bb,hat,hbb⟩
     ·exact .inl (.inl (.inr (.inr (hs.trans hat))))
     ·rw [hat] at hs;cases hs;exact .inr hbb
   ·have q:=H4.out;exact ⟨hg.os.trans (q.os.trans (HB4.out.os.trans HBB.out.os)),hg.tape.trans (q.tape.trans (HB4.out.tape.trans HBB.out.tape)),hg.output.trans (q.output.trans (HB4.out.output.trans HBB.out.output)),by have:=hg.size;omega,fun i hi hig=>(hg.block i (by omega) (fun e=>by have:=hbs i e.symm;omega)).trans ((HWX.out i (by omega) hig).trans (HBB.out.block i hi hig))⟩
 ·obtain rfl:k=n:=by omega
  have HFN:=Za HO.out;rw [List.take_of_length_le (by rw [<-HN.out];exact Zv _)] at HFN;go_wp2;refine cAz Ds wr hnd HD.out.1 (fun w' hkp hsz hos htp hou=> ?_)
  have hcc: ∀(q:Nat) (o:Obj),wr.heap[q]?=some o->o.isCells=true->w'.heap[q]?=wr.heap[q]?:=fun q o hq ho=>hkp q (aPz hq) (fun hm=>by
   have h1:=HD.out.1 q hm
   rw [hq] at h1;cases h1;cases ho)
  refine ⟨_,results_tmp2 rfl _ _ _,_,rfl,S_keepC HFN.out hcc,(Fd_keepC HFd.out hcc).thin (fun q _ hq=> .inl hq),hos.trans HBB.out.os,htp.trans HBB.out.tape,hou.trans HBB.out.output,by rw [hsz];exact HBB.out.size,fun i hi hig=>(hkp i (Zp hi HBB.out.size) (fun hm=>by have:=HD.out.2 i hm;omega)).trans (HBB.out.block i hi hig)⟩
end Go.Proofs.Xc
end
section
namespace Go.Proofs.Xc
open Go.RowKit Go.Proofs.Pw Go.Proofs.Pl Go.Proofs.Pm
attribute [local go_sem] a7z a8z bjz bkz aZz a0z a9z baz
section
variable {P : Program} {ops : Array Oper} {Q : Exit -> Act -> World -> Prop}
theorem goesV_ {oi : Oper} {N : Option Tmp} {a : Act} {w : World} {K : Act -> World -> Prop} {f : FuncId} {fn : Func} {ao : Array Operand} {ts : Array TypeId} (hf : P.funcs[f]? = some fn) (hname : (fn.name == "runtime.NumGoroutine") = false) (hb : fn.body.isSome = true) (x : Operand) (fst cap args : Array Value)
  (hx:a.eval x= .func (.func f) fst cap) (hw:Region.wanted oi (yielded ops a.tmps)=true) (hN:oi.dst=N) (hop:oi.op= .call { callee:= .value x,args:=ao,argTypes:=ts }) (hargs:fst++ao.map a.eval++cap=args)
  (h:Calls P f args w fun e w'=> ∃v,e= .returned v/\K (a.put N v) w'):if Region.wanted oi (yielded ops a.tmps)=true then Oper.wp P oi a w K Q else K (a.put N undef) w:=by
 refine call_ f args hw hN ?_ h;have he:=enters_ hf hname hb args w;unfold execOp;simp only [hop,resolve,hx,Deferred.ofValue];subst hargs
 simpa [invoke] using he
end
end Go.Proofs.Xc
end
