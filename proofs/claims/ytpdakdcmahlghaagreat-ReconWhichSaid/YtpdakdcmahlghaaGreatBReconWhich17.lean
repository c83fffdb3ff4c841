-- Joined texts of this work (wip/tools/bundle.py).
import Derived.OrdersIn
import Derived.Laws.EntriesVeiled
import Derived.Test.YtpdakdcmahlghaaGreatBReconWhich16
set_option maxHeartbeats 8000000
set_option maxRecDepth 100000
set_option linter.unusedVariables false
set_option linter.unusedSimpArgs false
section
namespace Go.Proofs.Xc
open Go.RowKit Go.Proofs.Pw Go.Proofs.Pl Go.Proofs.Pm Tryz
attribute [local go_sem] a7z a8z bgz bhz aVz aWz a9z baz
def stepsF (wb:Int):Nat->List (List Int)->List (List Int)
 |0,rows=>rows
 |i+1,rows=>stepF wb i (stepsF wb i rows)
def colsF (wb:Int) (k:Nat):Nat->List (List Int)->List (List Int)
 |0,rows=>rows
 |j+1,rows=>let r:=colsF wb k j rows;sclF wb (ginv wb ((r.getD k []).getD j 0)) k j r
def rowInv (wb:Int) (row:List Int):List Int:=row.map fun x=>gmul wb x (ginv wb (row.getD 0 0))
def jvM (wb:Int) (k m:Nat):List (List Int):=
 let r:=(colsF wb k k (stepsF wb k (extM wb k m))).drop k
 r.take 1++(r.drop 1).map (rowInv wb)
theorem stepF_each {wb:Int} {i:Nat} {rows:List (List Int)} {L:Nat} (h: ∀r,r∈rows->r.length=L):(∀r,r∈stepF wb i rows->r.length=L)/\(stepF wb i rows).length=rows.length:=by
 have cut: ∀(cs:List Int) (j:Nat) (rs:List (List Int)),(∀r,r∈rs->r.length=L)->(∀r,r∈cutF wb i cs j rs->r.length=L)/\(cutF wb i cs j rs).length=rs.length:=by
  intro cs
  induction cs with
  |nil=>exact fun _ _ h=>⟨h,rfl⟩
  |cons c cs ih=>
   intro j rs h;have h1:=eZz (wb:=wb) (c:=c) (i:=i) (j:=j) h;have h2:=ih (j+1) _ h1.1;exact ⟨h2.1,h2.2.trans h1.2⟩
 unfold stepF;have h1:=swpF_each (i:=i) h;have h2:=fcz wb (ginv wb (((swpF i rows).getD i []).getD i 0)) 0 i (swpF i rows) ((swpF i rows).length - 0) L h1.1;have h3:=cut ((sclF wb (ginv wb (((swpF i rows).getD i []).getD i 0)) 0 i (swpF i rows)).getD i []) 0 _ h2;refine ⟨h3.1,h3.2.trans ?_⟩;rw [<-h1.2];simp [sclTo]
theorem eSz (wb:Int) (k m:Nat) (h1:1<=k) (h2:1<=m):(∀r,r∈extM wb k m->r.length=k)/\(extM wb k m).length=k+m:=by
 refine ⟨fun r hr=> ?_,by simp [extM,madeF];omega⟩;unfold extM at hr;rcases List.mem_append.1 hr with hr|hr
 ·simp only [madeF,List.mem_map] at hr;obtain ⟨i, -,rfl⟩:=hr;simp
 ·rw [List.mem_singleton.1 hr];simp [lastU]
def invTo (wb:Int) (k:Nat) (rows:List (List Int)) (i:Nat):List (List Int):=rows.take (k+1)++(((rows.drop (k+1)).take i).map (rowInv wb)++(rows.drop (k+1)).drop i)
theorem invTo_zero (wb:Int) (k:Nat) (rows:List (List Int)):invTo wb k rows 0=rows:=by simp [invTo]
theorem invTo_at (wb:Int) (k:Nat) (rows:List (List Int)) (i:Nat) (row:List Int) (hf:k+1<=rows.length) (h:rows[k+1+i]?=some row):(invTo wb k rows i)[k+1+i]?=some row:=by
 have hi:=(Zk h).1;unfold invTo;rw [List.getElem?_append_right (by simp;omega),List.length_take,Nat.min_eq_left hf,Nat.add_sub_cancel_left,List.getElem?_append_right (by simp;omega)];simp only [List.length_map,List.length_take,List.length_drop,List.getElem?_drop];rw [show k+1+(i+(i - min i (rows.length - (k+1))))=k+1+i by omega];exact h
theorem invTo_step (wb:Int) (k:Nat) (rows:List (List Int)) (i:Nat) (row:List Int) (hf:k+1<=rows.length) (h:rows[k+1+i]?=some row):(invTo wb k rows i).set (k+1+i) (rowInv wb row)=invTo wb k rows (i+1):=by
 have hi:=(Zk h).1;have h2:(rows.drop (k+1))[i]?=some row:=by rw [List.getElem?_drop];exact h
 obtain ⟨h3,h4⟩:=Zk h2;unfold invTo;rw [List.set_append_right _ _ (by simp;omega),List.length_take,Nat.min_eq_left hf,Nat.add_sub_cancel_left,List.set_append_right _ _ (by simp;omega),List.length_map,List.length_take,List.length_drop,show i - min i (rows.length - (k+1))=0 by omega,List.drop_eq_getElem_cons h3,Zh,List.take_add_one (l:=rows.drop (k+1)),h2,List.map_append,List.append_assoc (List.map _ _)];rfl
theorem invTo_full (wb:Int) (k:Nat) (rows:List (List Int)) (hf:k+1<=rows.length):(invTo wb k rows (rows.length - (k+1))).drop k=(rows.drop k).take 1++((rows.drop k).drop 1).map (rowInv wb):=by
 have e1:(rows.drop (k+1)).take (rows.length - (k+1))=rows.drop (k+1):=List.take_of_length_le (by simp);have e2:(rows.drop (k+1)).drop (rows.length - (k+1))= [] :=List.drop_of_length_le (by simp);unfold invTo;rw [e1,e2,List.append_nil,List.drop_append_of_le_length (by simp;omega),List.drop_drop];congr 1
 rw [List.drop_take];congr 1
 omega
def mulTo (wb c:Int) (row:List Int) (j:Nat):List Int:=(row.take j).map (fun x=>gmul wb x c)++row.drop j
theorem mulTo_zero (wb c:Int) (row:List Int):mulTo wb c row 0=row:=by simp [mulTo]
theorem mulTo_full (wb:Int) (row:List Int):mulTo wb (ginv wb (row.getD 0 0)) row row.length=rowInv wb row:=by simp [mulTo,rowInv]
theorem mulTo_at (wb c:Int) (row:List Int) (j:Nat) (x:Int) (h:row[j]?=some x):(mulTo wb c row j)[j]?=some x:=by
 have hi:=(Zk h).1;unfold mulTo;rw [List.getElem?_append_right (by simp;omega)];simp only [List.length_map,List.length_take,List.getElem?_drop];rw [show j+(j - min j row.length)=j by omega];exact h
theorem mulTo_step (wb c:Int) (row:List Int) (j:Nat) (x:Int) (h:row[j]?=some x):(mulTo wb c row j).set j (gmul wb x c)=mulTo wb c row (j+1):=by
 obtain ⟨hi,e⟩:=Zk h;unfold mulTo;rw [List.set_append_right _ _ (by simp;omega),List.length_map,List.length_take,show j - min j row.length=0 by omega,List.drop_eq_getElem_cons hi,Zh,List.take_add_one,h,List.map_append,List.append_assoc];rfl
theorem edz {wb:Int} {rows:List (List Int)} {L:Nat} (h: ∀r,r∈rows->r.length=L): ∀i,(∀r,r∈stepsF wb i rows->r.length=L)/\(stepsF wb i rows).length=rows.length
 |0=>⟨h,rfl⟩
 |i+1=>by
  have h1:=edz (wb:=wb) h i;have h2:=stepF_each (wb:=wb) (i:=i) h1.1;exact ⟨h2.1,h2.2.trans h1.2⟩
theorem fdz {wb:Int} {k:Nat} {rows:List (List Int)} {L:Nat} (h: ∀r,r∈rows->r.length=L): ∀j,(∀r,r∈colsF wb k j rows->r.length=L)/\(colsF wb k j rows).length=rows.length
 |0=>⟨h,rfl⟩
 |j+1=>by
  have h1:=fdz (wb:=wb) (k:=k) h j;refine ⟨fcz _ _ _ _ _ _ _ h1.1,?_⟩;have: ∀(c:Int) (rs:List (List Int)),(sclF wb c k j rs).length=rs.length:=fun c rs=>by simp [sclF,sclTo];omega
  exact (this _ _).trans h1.2
theorem BS.bb_of {W a b:World} {g:Nat} {S0:Nat->Prop} (h:BB W a g) (k:BS a b g S0) (hs: ∀q,S0 q->W.heap.size<=q):BB W b g:=
 ⟨k.os.trans h.os,k.tape.trans h.tape,k.output.trans h.output,Zt h.size k.size,fun i hi hg=>(k.block i (Zp hi h.size) hg (fun s=>by have:=hs i s;omega)).trans (h.block i hi hg)⟩
def NewG (g B q:Nat):Prop:=q≠g/\B<=q
theorem Mx.F_drop {W:World} {o:Nat} {bs:List (Nat×Nat)} {rows:List (List Int)} (h:Mx W o bs rows) {g B:Nat} (hg:o≠g/\ ∀(i b c:Nat),bs[i]?=some (b,c)->b≠g) (hB:B<=o/\ ∀(i b c:Nat),bs[i]?=some (b,c)->B<=b) (n:Nat) (hl:rows.length<=1000) (hr: ∀r,r∈rows->r.length<=1000):
  Kd.F (dM 3 .i64) W (NewG g B) (some ⟨o,n,none⟩) (rows.drop n).length (rows.drop n):=by
 intro W' hW;have h':Mx W' o bs rows:=h.move (hW o ⟨hg.1,hB.1⟩ h.lt_o) (fun i b c hb=>hW b ⟨hg.2 i b c hb,hB.2 i b c hb⟩ (h.lt_i hb));refine ⟨rfl,by simp;omega,fun _=>⟨_,rfl,fun j p hp=> ?_⟩⟩;rw [List.getElem?_drop] at hp;obtain ⟨⟨b,c⟩,hb⟩: ∃q,bs[n+j]?=some q:=⟨_,Zf (by have h1:=h.len;have h2:=(Zk hp).1;omega)⟩;have hc:=h'.C_row hb hp 0 (hr p (Zo hp));rw [List.drop_zero] at hc;refine ⟨[.slice (some ⟨b,0,none⟩) p.length c],rfl,⟨_,c,rfl,(h'.inner _ b c p hb hp).1,hc⟩,fun i u hu=> ?_⟩
 cases i with
 |succ i=>simp at hu
 |zero=>
  obtain rfl:Value.slice (some ⟨b,0,none⟩) p.length c=u:=by simpa using hu
  have e:(⟨o,n,none⟩:Addr).add (j*(dM 3 .i64).sz+0)=⟨o,n+j,none⟩:=by
   show (⟨o,n,none⟩:Addr).add (j*1+0)=_;unfold Addr.add;split<;>simp_all
  rw [e];exact h'.cCz hb hp
theorem jpar.calls (g:Nat) (wb:Int) (S:Nat->Prop) (k m:Nat) (W:World) (hw:wb=8\/wb=16) (hF:Fd W g wb (fpoly wb) S) (hS: ∀k,S k->k<W.heap.size) (h1:1<=k) (h2:1<=m) (h3:k<=8) (h4:m<=4):
  Calls prog 76 #[.pointer (some ⟨g,0,none⟩), .int .i64 (k:Int), .int .i64 (m:Int)] W fun e w'=> ∃A c,e= .returned (.tuple #[.slice A m c, .int .i64 0])/\m<=c/\Kd.F (dM 3 .i64) w' (NewG g W.heap.size) A m (jvM wb k m)/\Fd w' g wb (fpoly wb) S/\BB W w' g:=by
 have HX:=Za (Extended.calls g wb S k m W hw hF hS h1 h2 h3 h4);have HE:=Za (eSz wb k m h1 h2);have HW:=Za hw;have HF:=Za hF;have HS:=Za hS;obtain ⟨res,hres⟩: ∃r,jvM wb k m=r:=⟨_,rfl⟩;rw [hres];unfold jvM at hres;have g0:=Za hres;generalize extM wb k m=ext at HX HE g0;have M1: ∀(fn:Fn) (first cap:Array Value) (w:World),(Instr.makeFunc fn first cap).run prog w= .ok (.func fn first cap) w:=fun _ _ _ _=>rfl
 clear hw hF hS hres;go_enter func76,ntmps76
 go_wp2_with fail
 refine HX.o.mono ?_;rintro e w1 ⟨v,Own,rfl,q1,q2,qo,q3⟩;obtain ⟨o,co,bs,rfl,hco,P0,z0,hbs,u1,y1⟩:=S_MxO q1 (by rw [HE.o.2];omega) (fun r hr=>by rw [HE.o.1 r hr];omega);rw [HE.o.2] at hco|-;have k0:=Za hco;have K1:=Za P0;have g1:=Za z0;have F1:=Za hbs;obtain ⟨S0,w0⟩: ∃S0:Nat->Prop,S0=(fun q=>q=o\/ ∃(i c:Nat),bs[i]?=some (q,c)):=⟨_,rfl⟩;have J1:=Za (show S0 o by rw [w0];exact .inl rfl);have d0:=Za (show∀(i b c:Nat),bs[i]?=some (b,c)->S0 b by rw [w0];exact fun i b c h=> .inr ⟨i,c,h⟩)
 have q0:=Za (show∀q,S0 q->W.heap.size<=q/\q<w1.heap.size by
  rw [w0];rintro q (rfl|⟨i,c,h⟩)
  ·exact ⟨P0,z0.lt_o⟩
  ·exact ⟨hbs i q c h,z0.lt_i h⟩)
 have A0:=Za (show Fd w1 g wb (fpoly wb) (fun q=>S q\/S0 q) from q2.thin (fun q _ hs=>hs.elim .inl (fun h=> .inr (by rw [w0] at h;rcases h with rfl|⟨i,c,h⟩;exact u1;exact y1 i q c h))));have R0:=Za q3;clear hco P0 z0 hbs q1 q2 q3 HX u1 y1 qo w0;obtain ⟨SS,hSS⟩: ∃SS:Nat->Prop,SS=(fun q=>S q\/S0 q):=⟨_,rfl⟩;have t0:=Za (show∀q,S0 q->SS q by rw [hSS];exact fun q h=> .inr h)
 have f1:=Za (show∀q,SS q->q<w1.heap.size by
  rw [hSS];rintro q (h|h)
  ·have:=HS.o q h;have:=R0.o.size;omega
  ·exact (q0.o q h).2)
 rw [<-hSS] at A0;have H1:=Za hSS;clear hSS;obtain ⟨n,hn⟩: ∃n,k+m=n:=⟨_,rfl⟩;have HN:=Za hn;have n1:k<n:=by omega
 have n2:n<=12:=by omega
 rw [hn] at k0 HE|-;clear hn;go_wp2;have b0:=Za (show (w1.alloc (.cells #[.pointer (some ⟨g,0,none⟩), .slice (some ⟨o,0,none⟩) n co] 146)).heap[w1.heap.size]?=some (.cells #[.pointer (some ⟨g,0,none⟩), .slice (some ⟨o,0,none⟩) n co] 146 (0,0)) from heap_alloc_new _ _);have a0:=Za (A0.o.alloc (.cells #[.pointer (some ⟨g,0,none⟩), .slice (some ⟨o,0,none⟩) n co] 146));have M0:=Za (show Mx (w1.alloc (.cells #[.pointer (some ⟨g,0,none⟩), .slice (some ⟨o,0,none⟩) n co] 146)) o bs (stepsF wb 0 ext) from g1.o.alloc _);have V0:=Za (R0.o.alloc (.cells #[.pointer (some ⟨g,0,none⟩), .slice (some ⟨o,0,none⟩) n co] 146));generalize w1.alloc (.cells #[.pointer (some ⟨g,0,none⟩), .slice (some ⟨o,0,none⟩) n co] 146)=w2 at b0 a0 M0 V0|-;obtain ⟨fb,a1⟩: ∃fb,w1.heap.size=fb:=⟨_,rfl⟩;have B0:=Za (show∀q,SS q->q<fb by rw [<-a1];exact f1.o);have N0:=Za (show fb≠g by have:=A0.o.lt;omega);have J0:=Za (show∀w',BB W w' g->w'.heap[fb]?=some (.cells #[.pointer (some ⟨g,0,none⟩), .slice (some ⟨o,0,none⟩) n co] 146 (0,0))-> ∀q,SS q->q<w'.heap.size from fun w' _ hb q hq=>Nat.lt_trans (B0.o q hq) (aUz hb))
 have o1:=Za (show¬SS fb from fun h=>by have:=B0.o fb h;omega);have Y0:=Za (show∀q,S0 q->W.heap.size<=q from fun q h=>(q0.o q h).1);rw [a1] at b0|-;clear a1 f1 A0 R0 g1;have HST:=Za (fun i=>edz (wb:=wb) HE.o.1 i)
 go_loopw [39] (fun iv wr=> ∃i:Nat,i<=k/\iv= .int .i64 (i:Int)/\Aside0 (Mx wr o bs (stepsF wb i ext))/\Aside0 (Fd wr g wb (fpoly wb) SS)/\Aside0 (BB W wr g)/\Aside0 (wr.heap[fb]?=some (.cells #[.pointer (some ⟨g,0,none⟩), .slice (some ⟨o,0,none⟩) n co] 146 (0,0)))) (fun iv _=>k - (intOf iv).toNat)
 case atStart=>exact ⟨0,Nat.zero_le _,rfl,M0,a0,V0,b0⟩
 clear M0 a0 V0 b0;obtain ⟨w3,rfl⟩: ∃w3,w3=wr:=⟨_,rfl⟩;obtain ⟨i,hi,rfl,HM,a0,HB,b0⟩:=hrel;by_cases hlt:i<k
 ·obtain ⟨row,hrow⟩: ∃row,(stepsF wb i ext)[i]?=some row:=⟨_,Zf (by have h1:=(HST.o i).2;have h2:=HE.o.2;omega)⟩;have HJ:=Za (jstep.calls g o wb S0 SS n co k i bs (stepsF wb i ext) row w3 HW.o a0.o t0.o (J0.o w3 HB.o b0.o) HM.o d0.o ((HST.o i).2.trans HE.o.2) k0.o (by omega) (HST.o i).1 (by omega) (by omega) (by omega) hlt hrow);clear hrow
  go_wp2_with fail
  refine HJ.o.mono ?_;rintro e w4 ⟨rfl,m4,f4,b4⟩;have M4:=Za (show Mx w4 o bs (stepsF wb (i+1) ext) from m4);have F4:=Za f4;have B4:=Za (BS.bb_of HB.o b4 Y0.o);have X4:=Za (b4.blk b0.o N0.o (fun h=>o1.o (t0.o _ h)));clear m4 f4 b4 HJ;go_wp2;go_roundw
  case rel=>exact ⟨i+1,by omega,by go_num,M4,F4,B4,X4⟩
  case measure=>simp [intOf];omega
 ·obtain rfl:i=k:=by omega
  have j0:=g0.o;obtain ⟨r1,b1⟩: ∃r1,stepsF wb i ext=r1:=⟨_,rfl⟩;have h0:=Za (show (∀r,r∈r1->r.length=i)/\r1.length=n by rw [<-b1];exact ⟨(HST.o i).1,(HST.o i).2.trans HE.o.2⟩);rw [b1] at HM j0;have e0:=Za j0;have i0:=Za (fun j=>fdz (wb:=wb) (k:=i) h0.o.1 j);clear b1 j0 g0 HST;obtain ⟨⟨bk,ck⟩,hbk⟩: ∃q,bs[i]?=some q:=⟨_,Zf (by have h1:=HM.o.len;have h2:=h0.o.2;omega)⟩;have G1:=Za hbk;obtain ⟨rk,U0⟩: ∃r,r1[i]?=some r:=⟨_,Zf (by have h2:=h0.o.2;omega)⟩;have hok:w3.cell? ⟨o,i,none⟩=some (.slice (some ⟨bk,0,none⟩) i ck):=by rw [HM.o.cCz hbk U0,h0.o.1 rk (Zo U0)]
  have l0:=Za (show Mx w3 o bs (colsF wb i 0 r1) from HM.o);have k1:(0:Int)<=(i:Int):=by omega
  have k2:(i:Int)<(n:Int):=by omega
  clear hbk U0 HM;go_wp2;clear hok
  go_loopw [51] (fun jv wr=> ∃j:Nat,j<=i/\jv= .int .i64 (j:Int)/\Aside0 (Mx wr o bs (colsF wb i j r1))/\Aside0 (Fd wr g wb (fpoly wb) SS)/\Aside0 (BB W wr g)/\Aside0 (wr.heap[fb]?=some (.cells #[.pointer (some ⟨g,0,none⟩), .slice (some ⟨o,0,none⟩) n co] 146 (0,0)))) (fun jv _=>i - (intOf jv).toNat)
  case atStart=>exact ⟨0,Nat.zero_le _,rfl,l0,a0,HB,b0⟩
  clear l0 a0 HB b0;obtain ⟨w4,rfl⟩: ∃w4,w4=wr:=⟨_,rfl⟩;obtain ⟨j,hj,rfl,HM,a0,HB,b0⟩:=hrel;by_cases r0:j<i
  ·have h3:=(i0.o j).2;have h4:=h0.o.2;obtain ⟨row,hrow⟩: ∃row,(colsF wb i j r1)[i]?=some row:=⟨_,Zf (by omega)⟩;obtain ⟨x,hx⟩: ∃x,row[j]?=some x:=⟨_,Zf (by rw [(i0.o j).1 row (Zo hrow)];exact r0)⟩;have hcx:w4.cell? ⟨bk,j,none⟩=some (.int .i64 x):=HM.o.cUz G1.o hrow hx
   have I1:=Za (show ((colsF wb i j r1).getD i []).getD j 0=x by
    have e1:(colsF wb i j r1).getD i [] =row:=by rw [Zm,hrow];rfl
    rw [e1,Zm,hx];rfl)
   have y0:=Za (gf_Inv.calls g SS wb x w4 HW.o a0.o (J0.o w4 HB.o b0.o));have j1:(0:Int)<=(j:Int):=by omega
   have j2:(j:Int)<(i:Int):=by omega
   clear hrow hx h3 h4
   go_wp2_with fail
   refine y0.o.mono ?_;rintro e w5 ⟨rfl,q1,q2⟩;have o0:=HM.o.ne_g (Fd.cells a0.o).choose_spec;have M5:=Za (HM.o.bb o0 q2);have F5:=Za q1;have B5:=Za (HB.o.trans q2);have X5:=Za ((q2.block fb (aUz b0.o) N0.o).trans b0.o);have G0:w5.cell? ⟨fb,0,none⟩=some (.pointer (some ⟨g,0,none⟩)):=(abz X5.o 0).trans rfl;have X0:w5.cell? ⟨fb,1,none⟩=some (.slice (some ⟨o,0,none⟩) n co):=(abz X5.o 1).trans rfl;have L0:=Za (scale.calls g o wb S0 SS n co i i j (ginv wb x) bs (colsF wb i j r1) w5 HW.o F5.o t0.o (J0.o w5 B5.o X5.o) M5.o d0.o ((i0.o j).2.trans h0.o.2) k0.o (by omega) (i0.o j).1 (by omega) r0 (by omega) (by omega))
   have E1:=Za (show sclF wb (ginv wb x) i j (colsF wb i j r1)=colsF wb i (j+1) r1 by
    show _=(let r:=colsF wb i j r1;sclF wb (ginv wb ((r.getD i []).getD j 0)) i j r)
    simp only [I1.o])
   rw [E1.o] at L0;clear q1 q2 o0 hcx y0
   go_wp2_with fail
   refine L0.o.mono ?_;rintro e w6 ⟨rfl,m6,f6,b6⟩;have M6:=Za m6;have F6:=Za f6;have B6:=Za (BS.bb_of B5.o b6 Y0.o);have X6:=Za (b6.blk X5.o N0.o (fun h=>o1.o (t0.o _ h)));clear m6 f6 b6 L0 G0 X0;go_wp2;go_roundw
   case rel=>exact ⟨j+1,by omega,by go_num,M6,F6,B6,X6⟩
   case measure=>simp [intOf];omega
  ·obtain rfl:i=j:=by omega
   have j0:=e0.o;obtain ⟨r2,E0⟩: ∃r2,colsF wb i i r1=r2:=⟨_,rfl⟩;have c0:=Za (show (∀r,r∈r2->r.length=i)/\r2.length=n by rw [<-E0];exact ⟨(i0.o i).1,(i0.o i).2.trans h0.o.2⟩);rw [E0] at HM j0
   have l1:=Za (show (invTo wb i r2 (n - (i+1))).drop i=res by
    have e:=invTo_full wb i r2 (by rw [c0.o.2];omega);rw [c0.o.2] at e
    exact e.trans j0)
   clear E0 j0 e0 i0;obtain ⟨nl,hnl⟩: ∃nl,n - (i+1)=nl:=⟨_,rfl⟩;have C0:=Za (show i+1+nl=n by omega);have W0:nl<=100:=by omega
   have hmm:n - i=m:=by have:=HN.o;omega
   have f6: ¬co=i:=by have:=k0.o;omega
   have p1:(0:Int)<=(i:Int)+1:=by omega
   have p2:(i:Int)+1<=(n:Int):=by omega
   have l0:=Za (show Mx w4 o bs (invTo wb i r2 0) by rw [invTo_zero];exact HM.o);rw [hnl] at l1
   have u0:=Za (show∀w',Mx w' o bs (invTo wb i r2 nl)->Fd w' g wb (fpoly wb) SS->BB W w' g->(m<=co - i/\Kd.F (dM 3 .i64) w' (NewG g W.heap.size) (some ⟨o,i,none⟩) m res/\Fd w' g wb (fpoly wb) S/\BB W w' g) from fun w' a b c=>by
    have hll:(invTo wb i r2 nl).length=n:=by
     have h1:=c0.o.2;have h2:=C0.o;simp [invTo];omega
    have hF:=a.F_drop (a.ne_g (Fd.cells b).choose_spec) ⟨K1.o,F1.o⟩ i (by omega) (fun r hr=>by
     have:r.length=i:=by
      unfold invTo at hr;rcases List.mem_append.1 hr with hr|hr
      ·exact c0.o.1 r (List.mem_of_mem_take hr)
      ·rcases List.mem_append.1 hr with hr|hr
       ·obtain ⟨q,hq,rfl⟩:=List.mem_map.1 hr;simp only [rowInv,List.length_map];exact c0.o.1 q (List.mem_of_mem_drop (List.mem_of_mem_take hq))
       ·exact c0.o.1 r (List.mem_of_mem_drop (List.mem_of_mem_drop hr))
     omega)
    rw [List.length_drop,hll,hmm,l1.o] at hF
    exact ⟨by have:=k0.o;omega,hF,b.thin (fun q _ hq=>by rw [H1.o];exact .inl hq),c⟩)
   clear HM;by_cases hco:co=i+1
   ·subst hco;obtain rfl:nl=0:=by have:=k0.o;have:=C0.o;omega
    go_wp2
    go_loopw [73] (fun jv wr=>jv= .int .i64 0/\wr=w4) (fun _ _=>0)
    case atStart=>exact ⟨rfl,rfl⟩
    obtain ⟨rfl,rfl⟩:=hrel;go_wp2;go_ret2;obtain ⟨z1,z2,z3,z4⟩:=u0.o _ l0.o a0.o HB.o;exact ⟨_,_,rfl,by omega,z2,z3,z4⟩
   ·go_wp2
    go_loopw [73] (fun tv wr=> ∃t:Nat,t<=nl/\tv= .int .i64 (t:Int)/\Aside0 (Mx wr o bs (invTo wb i r2 t))/\Aside0 (Fd wr g wb (fpoly wb) SS)/\Aside0 (BB W wr g)/\Aside0 (fb<wr.heap.size)) (fun tv _=>nl - (intOf tv).toNat)
    case atStart=>exact ⟨0,Nat.zero_le _,rfl,l0,a0,HB,⟨aUz b0.o⟩⟩
    clear l0 a0 HB b0;obtain ⟨w5,rfl⟩: ∃w5,w5=wr:=⟨_,rfl⟩;obtain ⟨t,ht,rfl,HM,a0,HB,Z0⟩:=hrel;by_cases L1:t<nl
    ·obtain ⟨row,hrow⟩: ∃r,r2[i+1+t]?=some r:=⟨_,Zf (by have:=c0.o.2;have:=C0.o;omega)⟩;have hat:=invTo_at wb i r2 t row (by rw [c0.o.2];omega) hrow;obtain ⟨⟨bi,ci⟩,hbi⟩: ∃q,bs[i+1+t]?=some q:=⟨_,Zf (by have h1:=HM.o.len;have h2:=(Zk hat).1;omega)⟩;have hrl:=c0.o.1 row (Zo hrow);obtain ⟨x0,D0⟩: ∃x,row[0]?=some x:=⟨_,Zf (by omega)⟩;have K0:w5.cell? ⟨o,i+1+t,none⟩=some (.slice (some ⟨bi,0,none⟩) i ci):=by rw [HM.o.cCz hbi hat,hrl]
     have hci:w5.cell? ⟨bi,0,none⟩=some (.int .i64 x0):=HM.o.cUz hbi hat D0;have y0:=Za (gf_Inv.calls g SS wb x0 w5 HW.o a0.o (fun q hq=>Nat.lt_trans (B0.o q hq) Z0.o));have t1:(0:Int)<=(t:Int):=by omega
     have t2:(t:Int)<(nl:Int):=by omega
     have T0:=Za hrow;have HAT:=Za hat;have f0:=Za hbi;have m1:=Za hrl;have D1:=Za (show row.getD 0 0=x0 by rw [Zm,D0];rfl);clear hrow hat hbi hrl D0
     go_wp2_with fail
     refine y0.o.mono ?_;rintro e w6 ⟨rfl,q1,q2⟩;have o0:=HM.o.ne_g (Fd.cells a0.o).choose_spec;have H0:=Za o0
     have I0:=Za (show Mx w6 o bs ((invTo wb i r2 t).set (i+1+t) (mulTo wb (ginv wb x0) row 0)) by
      obtain ⟨hl,e⟩:=Zk HAT.o;rw [mulTo_zero, <-e,List.set_getElem_self]
      exact HM.o.bb o0 q2)
     have v1:=Za q1;have B1:=Za (HB.o.trans q2);have p0:=Za (Zp Z0.o q2.size)
     have c1:=Za (show ((invTo wb i r2 t).set (i+1+t) (mulTo wb (ginv wb x0) row i))=invTo wb i r2 (t+1) by
      rw [<-invTo_step wb i r2 t row (by rw [c0.o.2];omega) T0.o, <-D1.o];congr 1
      have:=mulTo_full wb row;rw [m1.o] at this
      exact this)
     clear q1 q2 o0 K0 hci y0 HM a0 HB Z0;generalize ginv wb x0=c at I0 c1|-;go_wp2
     go_loopw [87] (fun jv wr=> ∃j:Nat,j<=i/\jv= .int .i64 (j:Int)/\Aside0 (Mx wr o bs ((invTo wb i r2 t).set (i+1+t) (mulTo wb c row j)))/\Aside0 (Fd wr g wb (fpoly wb) SS)/\Aside0 (BB W wr g)/\Aside0 (fb<wr.heap.size)) (fun jv _=>i - (intOf jv).toNat)
     case atStart=>exact ⟨0,Nat.zero_le _,rfl,I0,v1,B1,p0⟩
     clear I0 v1 B1 p0;obtain ⟨w7,rfl⟩: ∃w7,w7=wr:=⟨_,rfl⟩;obtain ⟨j,hj,rfl,n0,s1,A1,Q0⟩:=hrel;by_cases F0:j<i
     ·obtain ⟨x,hx⟩: ∃x,row[j]?=some x:=⟨_,Zf (by rw [m1.o];exact F0)⟩;have hself:((invTo wb i r2 t).set (i+1+t) (mulTo wb c row j))[i+1+t]?=some (mulTo wb c row j):=List.getElem?_set_self (Zk HAT.o).1;have hcx:w7.cell? ⟨bi,j,none⟩=some (.int .i64 x):=n0.o.cUz f0.o hself (mulTo_at wb c row j x hx);have hfx:=n0.o.froz_i f0.o j;have i1:=Za (cLz.calls g SS wb x c w7 HW.o s1.o (fun q hq=>Nat.lt_trans (B0.o q hq) Q0.o));have C1:=Za (show∀w3,BB w7 w3 g->w3.cell? ⟨bi,j,none⟩=some (.int .i64 x)/\w3.frozen? ⟨bi,j,none⟩=false from fun w3 h=>⟨cAz h hcx (H0.o.2 _ _ _ f0.o),froz_bb h (p:=⟨bi,j,none⟩) (n0.o.lt_i f0.o) hfx (H0.o.2 _ _ _ f0.o)⟩);have O0:=Za (mulTo_step wb c row j x hx);have v0:=Za hself;have j1:(0:Int)<=(j:Int):=by omega
      have j2:(j:Int)<(i:Int):=by omega
      clear hx hself hfx
      go_wp2_with fail
      refine i1.o.mono ?_;rintro e w8 ⟨rfl,q1,q2⟩;obtain ⟨d1,d2⟩:=C1.o w8 q2;have M8:=Za ((n0.o.bb H0.o q2).set (j:=j) f0.o v0.o (gmul wb x c));rw [List.set_set,O0.o] at M8;have F8:=Za (q1.set (q:=⟨bi,j,none⟩) (t0.o _ (d0.o _ _ _ f0.o)) (.int .i64 (gmul wb x c)));have B8:=Za ((A1.o.trans q2).new (Y0.o _ (d0.o _ _ _ f0.o)) j (.int .i64 (gmul wb x c)));have S8:=Za (show fb<(w8.setCell ⟨bi,j,none⟩ (.int .i64 (gmul wb x c))).heap.size by simpa using Zp Q0.o q2.size);clear q1 q2 hcx i1 C1;go_wp2;go_roundw
      case rel=>exact ⟨j+1,by omega,by go_num,M8,F8,B8,S8⟩
      case measure=>simp [intOf];omega
     ·obtain rfl:i=j:=by omega
      rw [c1.o] at n0;go_wp2;go_roundw
      case rel=>exact ⟨t+1,by omega,by go_num,n0,s1,A1,Q0⟩
      case measure=>simp [intOf];omega
    ·obtain rfl:t=nl:=by omega
     go_wp2;go_ret2;obtain ⟨z1,z2,z3,z4⟩:=u0.o _ HM.o a0.o HB.o;exact ⟨_,_,rfl,z1,z2,z3,z4⟩
section
variable {P : Program} {Q : Exit -> Act -> World -> Prop}
theorem opIn_of {l n:Nat} {o:Oper} {a:Act} {w:World} {K:Act->World->Prop} (hd: ∀c,o.op≠ .defer c) (h:o.wp P a w K Q):o.wpIn (Fence.wide.inRound l) n P a w K Q:=by
 refine ⟨fun _ _=>trivial,?_⟩;rw [Oper.semAt_eq _ _ _ hd];unfold Oper.wp at h;generalize (execOp a.eval o).run P w=r at h
 cases r with
 |ok x w'=>
  cases x with
  |value v=>exact h
  |skip=>exact h
  |defer d=>exact h
  |enter f args=>exact ⟨fun hh=>(by cases hh),CallsIn.inRound l (callsIn_wide.2 h)⟩
  |row row args=>
   refine ⟨fun hh=>(by cases hh),fun c cs _=> ?_⟩;obtain ⟨v,w2,r1,s1⟩:=h c cs;exact ⟨v,w2,r1,stepsIn_wide.2 s1⟩
  |_=>exact h.elim
 |halt hh w'=>
  cases hh with
  |panic v=>exact h
  |_=>exact h.elim
def noDefer (ops:Array Oper):Bool:=ops.all fun o=>match o.op with | .defer _=>false|_=>true
theorem noDefer_spec {ops:Array Oper} (h:noDefer ops=true) {i:Nat} {o:Oper} (ho:ops[i]?=some o) (c:Call):o.op≠ .defer c:=by
 obtain ⟨hi,rfl⟩:=Array.getElem?_eq_some_iff.1 ho;have:=Array.all_eq_true.1 h i hi;intro e;rw [e] at this;cases this
theorem epz {l n:Nat} {md:Region.Mode} {ops:Array Oper} (hnd:noDefer ops=true) (hq: ¬LetsOut Q): ∀(fuel:Nat) (listed:Array Bool) (a:Act) (w:World),wpAny P md ops Q fuel listed a w->wpAnyIn (Fence.wide.inRound l) n P md ops Q fuel listed a w
 |0,_,_,_,h=>h
 |fuel+1,listed,a,w,h=>by
  refine ⟨h.1,fun i hi=> ?_⟩;have h2:=h.2 i hi;unfold wpOp at h2;unfold wpOpIn;split at h2
  ·rename_i e
   rw [e];exact epz hnd hq fuel _ _ _ h2
  ·rename_i o e
   rw [e];dsimp only;split at h2
   ·rename_i hw
    rw [Ya hw];rcases h2 with h2|h2
    ·exact opIn_of (noDefer_spec hnd e) (Oper.wp_mono (fun a' w' h'=>epz hnd hq fuel _ a' w' h') h2)
    ·exact Yf h2.2 hq
   ·rename_i hw
    rw [Yb hw];exact ⟨fun _ _=>trivial,epz hnd hq fuel _ _ _ h2⟩
theorem startIn_ {l n : Nat} {ops : Array Oper} {S : World -> Prop} {ds : List Nat} {id m : Nat} {a : Act} {w : World} (L : Array Bool) (hm : P.follows .mixedOrders = true) (hn : ops.size = m) (hl : Array.replicate m false = L) (hnd : noDefer ops = true) (hq : ¬ LetsOut Q) (hS : S w.drew)
  (h:S w.drew->wpAnyLast P .any ops Q S ds m L a w.drew):(Code.region id ops true).wpIn (Fence.wide.inRound l) n P Q a w:=by
 subst hn;subst hl;exact wpIn_region_any hm (epz hnd hq _ _ _ _ (emz _ _ _ _ (h hS)))
end
end Go.Proofs.Xc
end
section
namespace Go.Proofs.Xc
open Go.RowKit Go.Proofs.Pw Go.Proofs.Pl Go.Proofs.Pm Tryz
attribute [local go_sem] a7z a8z bgz bhz aVz aWz a9z baz
attribute [local go_sem] Oper.semAt_some
def mulF (wb:Int) (a b:List (List Int)) (co:Nat):List (List Int):=a.map fun row=>(transp b co).map fun col=>dotF wb row col 0
theorem matrix_Mul.calls (g : Nat) (wb : Int) (S : Nat -> Prop) (A B : Option Addr) (ca cb co : Nat) (a b_ : List (List Int)) (W : World) (hw : wb = 8 \/ wb = 16) (t0 : MayOk wb a b_.length) (e1 : MayOk wb b_ co) (hF : Fd W g wb (fpoly wb) S) (hS : ∀ k, S k -> k < W.heap.size)
  (ha:Kd.F (dM 3 .i64) W (NotG g) A a.length a) (hb:Kd.F (dM 3 .i64) W (NotG g) B b_.length b_):
  Calls prog 161 #[.pointer (some ⟨g,0,none⟩), .slice A a.length ca, .slice B b_.length cb] W fun e w'=> ∃v,e= .returned (.tuple #[v, .int .i64 0])/\Kd.S (dM 3 .i64) 57 w' W.heap.size (fun _=>True) v (mulF wb a b_ co)/\Fd w' g wb (fpoly wb) S/\BB W w' g:=by
 have j1:=Za t0;have i0:=Za e1;have HW:=Za hw;have HF:=Za hF;have HS:=Za hS;have HA:=Za ha;have HB:=Za hb;obtain ⟨r0,C0⟩: ∃r,a[0]?=some r:=⟨_,Zf (by have:=t0.n1;omega)⟩;obtain ⟨ad,A1,c1,rfl, -, -, -⟩:=cjz (Kd.F_now ha) 0 r0 C0;have hrl:=(t0.each r0 (Zo C0)).1;have Q1:=Za C0;have na:(0:Int)<(a.length:Int):=by have:=t0.n1;omega
 have H0:a.length<=20:=t0.n2;obtain ⟨n,hn⟩: ∃n,n=a.length:=⟨_,rfl⟩;obtain ⟨m,hm⟩: ∃m,m=b_.length:=⟨_,rfl⟩;have HN:=Za hn;have HM:=Za hm;have H1:=Za hrl;rw [<-hn] at na H0|-;rw [<-hm];have hself:((m:Int) !=(m:Int))=false:=by simp
 clear hw t0 e1 hF hS ha hb C0 hrl hn hm;refine (callsIn_wide (n:=8)).1 (callsIn_of_wp_marks func161 rfl trivial (wpIn_wide.2 ?_) rfl);simp only [ntmps161,List.size_toArray,List.length_cons,List.length_nil,Nat.reduceAdd,Nat.reduceSub,Array.replicate_succ,Array.replicate_zero,List.push_toArray,List.append_toArray,List.nil_append,List.cons_append];have p0:=Za (fun W1 (h:Below W.heap.size W W1)=>dBz.ok g S wb (fpoly wb) (some ad) ca m a W1 HW.o (HM.o▸j1.o) (HF.o.below h) (Kd.aMz (Kd.F_now HA.o) h));have q0:=Za (fun W1 (h:Below W.heap.size W W1)=>dBz.ok g S wb (fpoly wb) B cb co b_ W1 HW.o i0.o (HF.o.below h) (Kd.aMz (Kd.F_now HB.o) h));rw [<-HN.o] at p0;rw [<-HM.o] at q0;have G0:=Za (show Below W.heap.size W (W.alloc (.cells #[.pointer (some ⟨g,0,none⟩)] 72)) from aoz (Zw _ _) _);have hbx:(W.alloc (.cells #[.pointer (some ⟨g,0,none⟩)] 72)).heap[W.heap.size]?=some (.cells #[.pointer (some ⟨g,0,none⟩)] 72 (0,0)):=heap_alloc_new _ _
 go_wp2_with fail
 generalize W.alloc (.cells #[.pointer (some ⟨g,0,none⟩)] 72)=w1 at G0 hbx|-;have HX:=Za hbx;refine (p0.o w1 G0.o).mono ?_;rintro e w2 ⟨rfl,V0⟩;have F0:=Za (G0.o.trans (V0.mono G0.o.size));have y1:=Za (aNz HX.o V0);have F1:w2.cell? ⟨W.heap.size,0,none⟩=some (.pointer (some ⟨g,0,none⟩)):=(abz y1.o 0).trans rfl;clear V0 hbx p0
 go_wp2_with fail
 refine (q0.o w2 F0.o).mono ?_;rintro e w3 ⟨rfl,I0⟩;have Q0:=Za (F0.o.trans (I0.mono F0.o.size));have k1:=Za (aNz y1.o I0);have O1:w3.cell? ⟨W.heap.size,0,none⟩=some (.pointer (some ⟨g,0,none⟩)):=(abz k1.o 0).trans rfl;obtain ⟨ad',A2,c2,he,hcell, -, -⟩:=cjz (Kd.aMz (Kd.F_now HA.o) Q0.o) 0 r0 Q1.o;obtain rfl:ad=ad':=Zn he;rw [cRz,H1.o, <-HM.o] at hcell;clear I0 F1 q0 he;go_wp2
 refine wp_loop (fun a' wr=> ∃(u8 u10 u11 u12 u34 u35 u36 u37 u38 u39 u40 u41 u42 u43 u44 u45 u46 u47 u48 u49 u50 u51 u52 u53:Value) (k:Nat) (Ds:List Nat),a'= { tmps:= #[.pointer (some ⟨g,0,none⟩), .slice (some ad) n ca, .slice B m cb, .pointer (some ⟨W.heap.size,0,none⟩),undef,undef, .slice none 0 0, .int .i64 0,u8,undef,u10,u11,u12, .pointer (some ⟨g,0,none⟩), .slice (some ad) n ca, .bool true, .bool false, .bool false, .pointer (some ⟨g,0,none⟩), .slice B m cb, .bool true, .bool false, .bool false, .bool false, .slice (some ad) n ca, .pointer (some ad), .slice A2 m c2, .int .i64 (m:Int), .slice B m cb, .int .i64 (m:Int), .bool false, .bool false, .slice (some ad) n ca, .int .i64 (n:Int),u34,u35,u36,u37,u38,u39,u40,u41,u42,u43,u44,u45,u46,u47,u48,u49,u50,u51,u52,u53],defers:=Ds.map fun D=> { target:= .collected D,args:= #[] } } /\u34= .int .i64 (k:Int)/\k<=n/\Ds.Nodup/\
  Aside0 ((∀D,D∈Ds->wr.heap[D]?=some (.deferred (some [])))/\(∀D,D∈Ds->W.heap.size<D))/\Aside0 (Kd.S (dM 3 .i64) 57 wr W.heap.size (fun _=>True) u8 (mulF wb (a.take k) b_ co))/\Aside0 (Fd wr g wb (fpoly wb) (fun k=>S k\/k=W.heap.size\/some k=u8.ownBlock))/\Aside0 (BB W wr g)/\Aside0 (wr.heap[W.heap.size]?=some (.cells #[.pointer (some ⟨g,0,none⟩)] 72 (0,0)))) (fun a' _=>n - (intOf (a'.tmps.getD 34 undef)).toNat) ?atStart ?round
 case atStart=>exact ⟨.slice none 0 0,undef,undef,undef, .int .i64 0,undef,undef,undef,undef,undef,undef,undef,undef,undef,undef,undef,undef,undef,undef,undef,undef,undef,undef,undef,0, [],rfl,rfl,by omega,List.nodup_nil,⟨fun _ h=>by simp at h,fun _ h=>by simp at h⟩,⟨Kd.S_nil _ _ _ _ _⟩,⟨((HF.o.more).below Q0.o).thin (fun k _ hs=>hs.elim .inl (fun h=>h.elim (fun e=> .inr (by omega)) (fun e=>by simp [Value.ownBlock] at e)))⟩,⟨BB.of_below Q0.o g⟩,k1⟩
 clear hcell O1;rintro a' wr ⟨u8,u10,u11,u12,u34,u35,u36,u37,u38,u39,u40,u41,u42,u43,u44,u45,u46,u47,u48,u49,u50,u51,u52,u53,k,Ds,rfl,rfl,hk,hnd,HD,HO,E0,c0,U0⟩;by_cases hlt:k<n
 ·obtain ⟨row,hrow⟩: ∃r,a[k]?=some r:=⟨_,Zf (by have:=HN.o;omega)⟩;have t1:=F_bb HA.o c0.o;obtain ⟨A',c',hcr,hle,o1⟩:=row_atF t1 k row hrow;have i1:(0:Int)<=(k:Int):=by omega
  have i2:(k:Int)<(n:Int):=by omega
  have L1:=Za o1;have HRW:=Za hrow;have hrl:=(j1.o.each row (Zo hrow)).1;rw [<-HM.o] at hrl;have Y0:=Za hrl;have P1:m<=c':=by omega
  rw [hrl] at hcr;clear t1 hrow hrl hle o1;have hcs:=columns.calls B m cb
  go_wp2_with (first|(go_at_call 184;refine (hcs _).mono ?_;rintro e w' ⟨rfl,rfl⟩))
  have k0:(((wr.alloc (.cells #[.slice A' m c'] 57)).alloc (.cells #[.slice none 0 0] 57)).alloc (.cells #[.slice B m cb] 69)).heap[wr.heap.size]?=some (.cells #[.slice A' m c'] 57 (0,0)):=aPz (aPz (cEz wr _) _) _;have j0:(((wr.alloc (.cells #[.slice A' m c'] 57)).alloc (.cells #[.slice none 0 0] 57)).alloc (.cells #[.slice B m cb] 69)).heap[wr.heap.size+1]?=some (.cells #[.slice none 0 0] 57 (0,0)):=aPz (bBz _ _ _ (by simp)) _;have n0:(((wr.alloc (.cells #[.slice A' m c'] 57)).alloc (.cells #[.slice none 0 0] 57)).alloc (.cells #[.slice B m cb] 69)).heap[wr.heap.size+1+1]?=some (.cells #[.slice B m cb] 69 (0,0)):=bBz _ _ _ (by simp);have u0:Below wr.heap.size wr (((wr.alloc (.cells #[.slice A' m c'] 57)).alloc (.cells #[.slice none 0 0] 57)).alloc (.cells #[.slice B m cb] 69)):=cGz (cGz (aoz (Zw _ _) _) (aoz (Zw _ _) _)) (aoz (Zw _ _) _);have hsz:(((wr.alloc (.cells #[.slice A' m c'] 57)).alloc (.cells #[.slice none 0 0] 57)).alloc (.cells #[.slice B m cb] 69)).heap.size=wr.heap.size+1+1+1:=by simp
  generalize ((wr.alloc (.cells #[.slice A' m c'] 57)).alloc (.cells #[.slice none 0 0] 57)).alloc (.cells #[.slice B m cb] 69)=w4 at *
  obtain ⟨b,hb⟩: ∃b,b=wr.heap.size:=⟨_,rfl⟩;rw [<-hb] at k0 j0 n0 hsz|-;have M0:=Za k0;have Z0:=Za j0;have O0:=Za n0;have B0:=Za u0;have S1:=Za hsz;have d0:=Za (show W.heap.size<b from hb▸aUz U0.o);have hgl:g<W.heap.size:=HF.o.lt
  have M1:=Za (show Kd.F (dM 3 .i64) w4 (fun k=> ¬(k=g\/k=b+1)) B b_.length b_ by
   have h1:=Kd.dVz HB.o;have h2:=Kd.csz (W1:=wr) h1 (fun k hk hlt=>c0.o.block k hlt hk.1);have h3:=Kd.cVz h2 (show Below wr.heap.size wr w4 from u0)
   exact Kd.cdz h3 (fun k hk h=>h.elim hk.1 (fun e=>by have:=hk.2;have:=d0.o;omega)))
  have b1:=Za (show Kd.F (Kd.int .i64) w4 (fun k=>k≠g/\k<b) A' row.length row from by
   rw [hb]
   exact Kd.cVz (Kd.dVz L1.o) u0)
  have S0:=Za (aNz U0.o u0);have D1:=Za (((E0.o.more).below u0).thin (S':=fun k=>(S k\/k=W.heap.size\/some k=u8.ownBlock)\/k=b+1\/some k=(Value.slice none 0 0).ownBlock) (fun k _ hs=>hs.elim .inl (fun h=>h.elim (fun e=> .inr (by omega)) (fun e=>by simp [Value.ownBlock] at e))));have N0:=Za hb;clear hcs hcr k0 j0 n0 u0 hb;refine (wpIn_wide (n:=8)).1 ?_
  refine fFz (α:=List Int×Nat) rfl (by omega) (gf:=196) (lb:= #[.pointer (some ⟨b+1+1,0,none⟩)]) rfl trivial (enters_of func196 kr_ rfl)
   (columns_seq (b+1+1) w4.heap.size co cb (fun k=>k=g\/k=b+1) B b_ w4 w4 ?hf (Zv _) (Zv _) ⟨Zv _,fun _ _ _=>rfl⟩ i0.o.n1 (by have:=i0.o.n2;omega) (fun r hr=>(i0.o.each r hr).1) (by have:=i0.o.c2;omega) ?hx12 (by omega) (by have:=d0.o;omega)) KpX.trans ?hKb (Zw _ _) (fun _=>rfl)
   (fun pre Wx=> ∃v,Wx.heap[b+1]?=some (.cells #[v] 57 (0,0))/\(Kd.int .i64).R 3 Wx w4.heap.size (fun _=>True) v (pre.map fun x=>dotF wb row x.1 0)/\Fd Wx g wb (fpoly wb) (fun k=>(S k\/k=W.heap.size\/some k=u8.ownBlock)\/k=b+1\/some k=v.ownBlock)/\BS w4 Wx g (fun k=>k=b+1))
   ?hI ?hHd ?h0 (fun x=> { tmps:= #[.pointer (some ⟨g,0,none⟩), .slice (some ad) n ca, .slice B m cb, .pointer (some ⟨W.heap.size,0,none⟩),undef,undef, .slice none 0 0, .int .i64 0,u8,undef, .pointer (some ⟨b,0,none⟩), .pointer (some ⟨b+1,0,none⟩), .slice (some ⟨x.2,0,none⟩) x.1.length x.1.length, .pointer (some ⟨g,0,none⟩), .slice (some ad) n ca, .bool true, .bool false, .bool false, .pointer (some ⟨g,0,none⟩), .slice B m cb, .bool true, .bool false, .bool false, .bool false, .slice (some ad) n ca, .pointer (some ad), .slice A2 m c2, .int .i64 (m:Int), .slice B m cb, .int .i64 (m:Int), .bool false, .bool false, .slice (some ad) n ca, .int .i64 (n:Int), .int .i64 (k:Int), .bool true, .pointer (some (ad.add k)), .slice A' m c', .slice B m cb, .func (.func 196) #[] #[.pointer (some ⟨b+1+1,0,none⟩)], .slice (some ⟨x.2,0,none⟩) x.1.length x.1.length,u41,u42,u43,u44,u45,u46,u47,u48,u49,u50,u51,u52,u53],defers:= [] }) ?assign ?body ?done
  case hf=>exact M1.o
  case hx12=>rw [<-HM.o];exact O0.o
  case hKb=>exact fun Wx l o o' hl ho _=>⟨(grownBy_putObj' Wx l o').size,fun k hk _=>World.putObj_heap_other (by omega)⟩
  case hI=>
   rintro s X Y r ⟨v,h1,h2,h3,h4⟩ hg hr;have hr': ∀q,r=some q-> ∃o:Obj,X.heap[q]?=some o/\o.isCells=false:=fun q e=>(hr q e).2
   exact ⟨v,(grownBy_keeps_cells hg hr' h1 rfl).trans h1,faz h2 hg hr',Fd_noncells h3 hg hr',⟨hg.os.trans h4.os,hg.tape.trans h4.tape,hg.output.trans h4.output,Zt h4.size hg.size,fun i hi hgi hs=>(hg.block i (Zp hi h4.size) (fun e=>by have:=(hr i e.symm).1;omega)).trans (h4.block i hi hgi hs)⟩⟩
  case hHd=>
   rintro x - X Y r ⟨h0,h1⟩ hg hr;exact ⟨h0,(grownBy_keeps_cells hg (fun q e=>(hr q e).2) h1 rfl).trans h1⟩
  case h0=>exact ⟨_,Z0.o,Kd.R_nil _ _ _ _ _,D1.o,BS.refl _ _ _⟩
  case assign=>
   intro l x Wx K hK
   gi_wp2
   exact hK
  case body=>
   rintro l pre ⟨b0,X0⟩ Wx ⟨v,h1,h2,h3,h4⟩ ⟨A0,R0⟩ hlen;dsimp only at A0 R0;have K0:g<w4.heap.size:=by have:=d0.o;omega
   have y0:Wx.cell? ⟨b+1,0,none⟩=some v:=(abz h1 0).trans rfl;have L0:Wx.cell? ⟨W.heap.size,0,none⟩=some (.pointer (some ⟨g,0,none⟩)):=(abz (h4.blk S0.o (by omega) (by have:=d0.o;omega)) 0).trans rfl;have l0:Wx.cell? ⟨b,0,none⟩=some (.slice A' m c'):=(abz (h4.blk M0.o (by have:=d0.o;omega) (by omega)) 0).trans rfl;obtain ⟨p1,a0⟩:=h3.cells;have e0:Kd.F (Kd.int .i64) Wx (NotG g) A' row.length row:=Kd.cdz (Kd.csz b1.o (fun k hk hlt=>h4.block k hlt hk.1 (by have:=hk.2;omega))) (fun k hk=>hk.1);have g0:=F_block a0 (by decide) R0 (by rw [A0];have:=i0.o.n2;omega)
   have hSS: ∀k,((S k\/k=W.heap.size\/some k=u8.ownBlock)\/k=b+1\/some k=v.ownBlock)->k<Wx.heap.size:=by
    have s1:=h4.size;have s2:=d0.o;have s3:=N0.o;rintro k ((hk|hk|hk)|hk|hk)
    ·have:=HS.o k hk;omega
    ·omega
    ·have:=Kd.R_lt (Kd.S_R HO.o) k hk.symm;omega
    ·omega
    ·exact Kd.R_lt h2 k hk.symm
   have o0:=matrix_dot.calls g _ wb A' (some ⟨X0,0,none⟩) c' b0.length row b0 Wx.drew HW.o (Fd.drew h3) hSS (by rw [Y0.o];have:=i0.o.n2;have:=HM.o;omega) (by rw [Y0.o,A0,HM.o];exact Zv _) (Kd.F_drew e0) (Kd.F_drew g0);rw [Y0.o] at o0;have T0:=Za o0;have hbase:=Kd.cbz h2
   have W0 := Za (show ∀ w6, Fd w6 g wb (fpoly wb) (fun k => (S k \/ k = W.heap.size \/ some k = u8.ownBlock) \/ k = b + 1 \/ some k = v.ownBlock) -> BB Wx w6 g -> ∃ v1 w7, (∃ ua nn uc, v1 = .slice ua nn uc) /\ (Builtin.append_ #[57, 57] 57 #[v, .slice (some ⟨w6.heap.size, 0, none⟩) 1 1]).run prog (w6.alloc (.cells #[.int .i64 (dotF wb row b0 0)] 3)) = .ok v1 w7 /\
     w6.cell? ⟨b+1,0,none⟩=some v/\w6.cell? ⟨W.heap.size,0,none⟩=some (.pointer (some ⟨g,0,none⟩))/\w6.cell? ⟨b,0,none⟩=some (.slice A' m c')/\w7.cell? ⟨b+1,0,none⟩=some v/\w7.frozen? ⟨b+1,0,none⟩=false/\
     (KeepsFrom w4.heap.size Wx (w7.setCell ⟨b+1,0,none⟩ v1)/\KpX w4.heap.size (fun k=>k=g\/k=b+1) Wx (w7.setCell ⟨b+1,0,none⟩ v1)/\
      ∃v',(w7.setCell ⟨b+1,0,none⟩ v1).heap[b+1]?=some (.cells #[v'] 57 (0,0))/\(Kd.int .i64).R 3 (w7.setCell ⟨b+1,0,none⟩ v1) w4.heap.size (fun _=>True) v' ((pre++ [(b0,X0)]).map fun x=>dotF wb row x.1 0)/\Fd (w7.setCell ⟨b+1,0,none⟩ v1) g wb (fpoly wb) (fun k=>(S k\/k=W.heap.size\/some k=u8.ownBlock)\/k=b+1\/some k=v'.ownBlock)/\BS w4 (w7.setCell ⟨b+1,0,none⟩ v1) g (fun k=>k=b+1)) by
    intro w6 q1 q3;have s1:=h4.size;have s2:=d0.o;have s3:=q3.size;have g1:w6.heap[b+1]?=some (.cells #[v] 57 (0,0)):=(q3.block _ (aUz h1) (by omega)).trans h1;have r0:=Kd.aKz (Kd.dpz (w1:=w6) (Kd.dSz h2 a0 (by decide)) (fun k hk hlt=>q3.block k hlt hk.2)) (ok':=fun _=>True) (fun _ _=>trivial);obtain ⟨v1,w7,hrun,r7,g7,a7⟩:=append_int_run (dotF wb row b0 0) r0 (by omega) (by have:=i0.o.c2;simp;omega);have hne:some (b+1)≠v.ownBlock:=fun e=>by have:=hbase _ e.symm;omega
    have g2:w7.heap[b+1]?=some (.cells #[v] 57 (0,0)):=(g7.block _ (aUz g1) hne).trans g1;have hsc: ∀k,k≠b+1->(w7.setCell ⟨b+1,0,none⟩ v1).heap[k]?=w7.heap[k]?:=fun k hk=>Below.heap_setCell w7 ⟨b+1,0,none⟩ v1 k hk
    have z0: ∀k,k<w4.heap.size->k≠g->k≠b+1->(w7.setCell ⟨b+1,0,none⟩ v1).heap[k]?=Wx.heap[k]?:=fun k hk hkg hkb=>(hsc k hkb).trans ((g7.block k (by omega) (fun e=>by have:=hbase _ e.symm;omega)).trans (q3.block k (by omega) hkg))
    have hsl: ∃ua nn uc,v1= .slice ua nn uc:=by obtain ⟨ua,uc,h⟩:=Kd.aQz r7;exact ⟨ua,_,uc,h⟩
    refine ⟨v1,w7,hsl,hrun,(abz g1 0).trans rfl,?_,?_,(abz g2 0).trans rfl,bbz g2 0,?_,?_,v1,coz g2 0 v1 rfl,?_,?_,?_⟩
    ·exact (World.cell?_of_block (q3.block _ (Zj _ _ L0) (by show W.heap.size≠g;omega))).trans L0
    ·exact (World.cell?_of_block (q3.block _ (Zj _ _ l0) (by show b≠g;omega))).trans l0
    ·refine ⟨by have:=g7.size;simp;omega,fun k o hk hko hno=> ?_⟩;have n1:k≠g:=by rintro rfl;rw [a0] at hko;cases hko;cases hno
     have n2:k≠b+1:=by rintro rfl;rw [h1] at hko;cases hko;cases hno
     have D0:w6.heap[k]?=some o:=(q3.block k (aUz hko) n1).trans hko
     have n3:some k≠v.ownBlock:=fun e=>by
      obtain ⟨cells,hc⟩:=Kd.dTz r0 k e.symm;rw [hc] at D0;cases D0;cases hno
     exact (hsc k n2).trans ((g7.block k (aUz D0) n3).trans D0)
    ·exact ⟨by have:=g7.size;simp;omega,fun k hk he=>z0 k hk (fun e=>he (.inl e)) (fun e=>he (.inr e))⟩
    ·rw [List.map_append];exact Kd.aKz (Kd.cvz (Kd.bUz r7) (fun k hk=>hsc k (by have:=hk.2.1;omega))) (fun _ _=>trivial)
    ·refine ((q1.grow (fun k e=> .inr (.inr e.symm)) g7).set (q:=⟨b+1,0,none⟩) (.inl (.inr (.inl rfl))) v1).thin (fun k hk hs=> ?_);rcases hs with hs|hs|hs
     ·exact .inl (.inl hs)
     ·exact .inl (.inr (.inl hs))
     ·rcases a7 with a7|⟨bb,a7,hbb⟩
      ·exact .inl (.inr (.inr (hs.trans a7)))
      ·rw [a7] at hs;cases hs;exact .inr hbb
    ·exact ⟨g7.os.trans (q3.os.trans h4.os),g7.tape.trans (q3.tape.trans h4.tape),g7.output.trans (q3.output.trans h4.output),by have:=g7.size;simp;omega,fun k hk hkg hs=>(z0 k hk hkg hs).trans (h4.block k hk hkg hs)⟩)
   have hmo:prog.follows .mixedOrders=true:=by kernel_rfl
   clear h1 h2 h3 h4 A0 R0 hlen a0 e0 g0 hSS o0 hbase K0
   gi_wp2
   refine startIn_ (m:=8) (S:=fun w'=>w'.cell? ⟨b+1,0,none⟩=some v/\w'.cell? ⟨W.heap.size,0,none⟩=some (.pointer (some ⟨g,0,none⟩))/\w'.cell? ⟨b,0,none⟩=some (.slice A' m c')) (ds:= [6,7]) (bA 8 0) kr_ rfl rfl kr_ (by rintro ⟨_,_,h⟩;exact h) ⟨y0,L0,l0⟩ (fun hHeld=> ?_);refine pu_ 3 44 8 ?_;refine tk_ 0 41 9 hHeld ?_;refine tk_ 1 42 11 hHeld ?_;refine tk_ 2 43 15 hHeld ?_;refine one_ (i:=4) (N:=some 45) (bA 8 31) rfl rfl kr_ (by decide) (fun K hK=> ?_);refine goes_ func185 kr_ rfl #[.pointer (some ⟨g,0,none⟩), .slice A' m c', .slice (some ⟨X0,0,none⟩) b0.length b0.length] (by rfl) rfl rfl am_ ?_
   with_reducible refine (T0.o).mono ?_
   rintro e w6 ⟨rfl,q1,q2⟩;refine ⟨_,rfl,?_⟩;obtain ⟨v1,w7,⟨ua,nn,uc,rfl⟩,hrun,r1,r2,r3,r4,r5,r6⟩:=W0.o w6 q1 ⟨q2.os,q2.tape,q2.output,q2.size,q2.block⟩;have R6:=Za r6;clear q1 q2 r6;refine hK.out _ _ ⟨r1,r2,r3⟩ (fun hHeld=> ?_);clear hK K;refine norm_ (a':= ?_) ?_ ?_;rotate_left
   ·show Act.put _ (some 45) _=_;simp only [Act.put,Zg,Zh,Zi,i64_w,i32_w];rfl
   refine one_ (i:=5) (N:=some 46) (bA 8 63) rfl rfl kr_ (by decide) (fun K hK=> ?_);refine chz (w1:= ?_) (v:= ?_) (by rfl) rfl ?_ ?_;rotate_left 2
   ·go_simp;constructor
    ·rfl
    ·rfl
   refine hK.out _ _ ⟨(World.cell?_alloc_past _ _ _ (Zj _ _ r1)).trans r1,(World.cell?_alloc_past _ _ _ (Zj _ _ r2)).trans r2,(World.cell?_alloc_past _ _ _ (Zj _ _ r3)).trans r3⟩ (fun hHeld=> ?_);clear hK K;refine norm_ (a':= ?_) ?_ ?_;rotate_left
   ·show Act.put _ (some 46) _=_;simp only [Act.put,Zg,Zh,Zi,i64_w,i32_w];rfl
   refine last_ (i:=6) (N:=some 47) (bA 8 127) rfl rfl kr_ (by decide) (fun K hK=> ?_);refine chz (w1:=w7) (v:= .slice ua nn uc) (by rfl) rfl (by simp [execOp,resolve,Deferred.ofValue,invoke,builtin,Act.eval,hrun,Result.andThen]) ?_;refine hK.out _ _ ?_;clear hK K;refine norm_ (a':= ?_) ?_ ?_;rotate_left
   ·show Act.put _ (some 47) _=_;simp only [Act.put,Zg,Zh,Zi,i64_w,i32_w];rfl
   refine last_ (i:=7) (N:=none) (bA 8 255) rfl rfl kr_ (by decide) (fun K hK=> ?_);refine skip_ (w1:= ?_) (by rfl) rfl ?_ ?_;rotate_left
   ·go_simp;rfl
   refine hK.out _ _ ?_;clear hK K;refine done_ kr_ ?_;exact R6.o
  case done=>
   rintro D xs Wx hD hxs ⟨v,h1,h2,h3,h4⟩ u1;have hmap:(xs.map fun x=>dotF wb row x.1 0)=(transp b_ co).map fun b0=>dotF wb row b0 0:=by rw [<-hxs,List.map_map];rfl
   rw [hmap] at h2;have hRl:((transp b_ co).map fun b0=>dotF wb row b0 0).length=co:=by simp [transp]
   have HZ:=Za (show mulF wb (a.take (k+1)) b_ co=mulF wb (a.take k) b_ co++ [(transp b_ co).map fun b0=>dotF wb row b0 0] by
    unfold mulF
    rw [List.take_add_one,HRW.o];simp)
   generalize ((transp b_ co).map fun b0=>dotF wb row b0 0)=R at h2 hRl HZ;obtain ⟨va,vc,rfl⟩:=Kd.aQz h2;rw [hRl] at h1 h2 h3;have s1:=h4.size;have s2:=d0.o;have s3:=N0.o;obtain ⟨p1,a0⟩:=E0.o.cells;have hlz:(mulF wb (a.take k) b_ co).length<=1000:=by simp [mulF];omega
   have N1:=Za hlz;have hwx: ∀q,q<b->q≠g->Wx.heap[q]?=wr.heap[q]?:=fun q hq hqg=>(h4.block q (by omega) hqg (by omega)).trans (B0.o.block q (by omega))
   have P0:=Za (show Kd.S (dM 3 .i64) 57 Wx W.heap.size (fun k'=>True/\ ¬b<=k') u8 (mulF wb (a.take k) b_ co) from
    Kd.cPz (Kd.S_move (Kd.bDz (Kd.S_types HO.o a0 (by decide))) (fun q hq=>hwx q (by have:=hq.2.2.1;omega) hq.1.2)) (fun q hq=>⟨trivial,by have:=hq.2.2.1;omega⟩))
   have B1:=Za (show (dM 3 .i64).M Wx W.heap.size (fun k'=>b<=k') R [.slice va co vc] from ⟨_,rfl,Kd.bCz (Kd.aKz (Kd.bUz h2) (fun q hq=>by have:=hq.2.1;omega)) (by omega)⟩);have I1:=Za (show∀k',b<=k'->True/\some k'≠u8.ownBlock from fun q hq=>⟨trivial,fun e=>by have:=Kd.R_lt (Kd.S_R HO.o) q e.symm;omega⟩);have y0:Wx.cell? ⟨b+1,0,none⟩=some (.slice va co vc):=(abz h1 0).trans rfl;have H3:=Za h3;have a1:=Za hwx;have H4:=Za h4;have J0:=Za u1;have f1:=Za hD;have G1:=Za (show W.heap.size<=Wx.heap.size by omega);clear h1 h2 h3 h4 hxs hmap hRl a0 hlz hwx u1 hD s1 s2 s3;simp only [Exit.inBlock,Exit.then]
   go_wp2_with ((with_reducible refine amz (b:= .append) (xs:= #[.tmp 48, .tmp 50]) rfl ?_);go_must (at_builtin;refine Kd.bLz (dM 3 .i64) (w0:=Wx) W.heap.size rfl (.tmp 48) (.tmp 50) 69 57 (.slice none 0 0) 24 rfl underlying69 kr_ rfl (by decide) (by decide) _ _ R [.slice va co vc] (fun _=>True) (fun k'=>b<=k') rfl rfl B1.o I1.o (fun _ _=>trivial) P0.o (Zw _ _) G1.o (by have:=N1.o;omega) ?_);intro v2 w8 m1 l1 d1 v0;have K1:=Za m1;have F0:=Za l1;have C1:=Za d1;have R1:=Za v0;clear m1 l1 d1 v0)
   have hg:Wx.grownBy w8 u8.ownBlock:=C1.o;have hat:v2.ownBlock=u8.ownBlock\/ ∃b,v2.ownBlock=some b/\Wx.heap.size<=b:=R1.o;have s1:=H4.o.size;have s2:=d0.o;have s3:=N0.o;have hty:=Kd.bFz P0.o;obtain ⟨p1,a0⟩:=E0.o.cells
   have J1:some D≠u8.ownBlock:=fun e=>by
    obtain ⟨cells,hc⟩:=hty D e.symm;have h:=J0.o;rw [hc] at h;cases h
   have hDs: ∀D',D'∈Ds->w8.heap[D']?=some (.deferred (some []))/\D'<b:=fun D' hD'=>by
    have h1:=HD.o.1 D' hD';have h2:=aUz h1;have h3:D'≠g:=by rintro rfl;rw [a0] at h1;cases h1
    have h4:=(a1.o D' (by omega) h3).trans h1
    have h5:some D'≠u8.ownBlock:=fun e=>by
     obtain ⟨cells,hc⟩:=hty D' e.symm;rw [hc] at h4;cases h4
    exact ⟨(hg.block D' (aUz h4) h5).trans h4,by omega⟩
   have f0:Wx.heap[W.heap.size]?=some (.cells #[.pointer (some ⟨g,0,none⟩)] 72 (0,0)):=(a1.o _ (by omega) (by omega)).trans U0.o
   have E1:some W.heap.size≠u8.ownBlock:=fun e=>by
    obtain ⟨cells,hc⟩:=hty _ e.symm;rw [hc] at f0;injection f0 with f0
    injection f0 with _ f0
    exact Yf f0 (by decide)
   have hbs:=Kd.cbz (Kd.S_R P0.o);refine ⟨⟨_,_,_,_,_,_,_,_,_,_,_,_,_,_,_,_,_,_,_,_,_,_,_,_,k+1,D::Ds,rfl,rfl,by omega,List.nodup_cons.2 ⟨fun h=>by have:=(hDs D h).2;have:=f1.o;omega,hnd⟩,⟨fun D' hD'=> ?_,fun D' hD'=> ?_⟩,⟨by rw [HZ.o];exact K1.o⟩,⟨?_⟩,⟨?_⟩,⟨(hg.block _ (aUz f0) E1).trans f0⟩⟩,by simp [intOf];omega⟩
   ·rcases List.mem_cons.1 hD' with rfl|hD'
    ·exact (hg.block _ (aUz J0.o) J1).trans J0.o
    ·exact (hDs D' hD').1
   ·rcases List.mem_cons.1 hD' with rfl|hD'
    ·have:=f1.o;omega
    ·exact HD.o.2 D' hD'
   ·refine (H3.o.grow (fun k e=> .inl (.inr (.inr e.symm))) hg).thin (fun q hq hs=> ?_);rcases hs with hs|hs|hs
    ·exact .inl (.inl (.inl hs))
    ·exact .inl (.inl (.inr (.inl hs)))
    ·rcases hat with hat|⟨bb,hat,hbb⟩
     ·exact .inl (.inl (.inr (.inr (hs.trans hat))))
     ·rw [hat] at hs;cases hs;exact .inr hbb
   ·have q:=H4.o;exact ⟨hg.os.trans (q.os.trans (B0.o.os.trans c0.o.os)),hg.tape.trans (q.tape.trans (B0.o.tape.trans c0.o.tape)),hg.output.trans (q.output.trans (B0.o.output.trans c0.o.output)),by have:=hg.size;omega,fun i hi hig=>(hg.block i (by omega) (fun e=>by have:=hbs i e.symm;omega)).trans ((a1.o i (by omega) hig).trans (c0.o.block i hi hig))⟩
 ·obtain rfl:k=n:=by omega
  have z1:=Za HO.o;rw [List.take_of_length_le (by rw [<-HN.o];exact Zv _)] at z1;go_wp2;refine cwz Ds wr hnd HD.o.1 (fun w' hkp hsz hos htp hou=> ?_)
  have hcc: ∀(q:Nat) (o:Obj),wr.heap[q]?=some o->o.isCells=true->w'.heap[q]?=wr.heap[q]?:=fun q o hq ho=>hkp q (aUz hq) (fun hm=>by
   have h1:=HD.o.1 q hm
   rw [hq] at h1;cases h1;cases ho)
  refine ⟨_,results_tmp2 rfl _ _ _,_,rfl,S_keepC z1.o hcc,(Fd_keepC E0.o hcc).thin (fun q _ hq=> .inl hq),hos.trans c0.o.os,htp.trans c0.o.tape,hou.trans c0.o.output,by rw [hsz];exact c0.o.size,fun i hi hig=>(hkp i (Zp hi c0.o.size) (fun hm=>by have:=HD.o.2 i hm;omega)).trans (c0.o.block i hi hig)⟩
end Go.Proofs.Xc
end
section
namespace Go.Proofs.Xc
open Go.RowKit Go.Proofs.Pw Go.Proofs.Pl Go.Proofs.Pm Tryz
attribute [local go_sem] a7z a8z bgz bhz aVz aWz a9z baz
section
variable {P : Program} {ops : Array Oper} {Q : Exit -> Act -> World -> Prop}
theorem goesV_ {oi : Oper} {N : Option Tmp} {a : Act} {w : World} {K : Act -> World -> Prop} {f : FuncId} {fn : Func} {ao : Array Operand} {ts : Array TypeId} (hf : P.funcs[f]? = some fn) (hname : (fn.name == "runtime.NumGoroutine") = false) (hb : fn.body.isSome = true) (x : Operand) (fst cap args : Array Value)
  (hx:a.eval x= .func (.func f) fst cap) (hw:Region.wanted oi (yielded ops a.tmps)=true) (hN:oi.dst=N) (hop:oi.op= .call { callee:= .value x,args:=ao,argTypes:=ts }) (hargs:fst++ao.map a.eval++cap=args)
  (h:Calls P f args w fun e w'=> ∃v,e= .returned v/\K (a.put N v) w'):if Region.wanted oi (yielded ops a.tmps)=true then Oper.wp P oi a w K Q else K (a.put N undef) w:=by
 refine call_ f args hw hN ?_ h;have he:=enters_ hf hname hb args w;unfold execOp;simp only [hop,resolve,hx,Deferred.ofValue];subst hargs
 simpa [invoke] using he
end
end Go.Proofs.Xc
end
section
namespace Go.Proofs.Xc
open Go.RowKit Go.Proofs.Pw Go.Proofs.Pl Go.Proofs.Pm Tryz
attribute [local go_sem] a7z a8z bgz bhz aVz aWz a9z baz
def avz.f (a0_0 a0_1:Int) (a0_2:Int):Option (Bool):=(bnz.f a0_0).bind fun bt102=>(if bt102.2.2.2.2.2=true then (if a0_1>=1 then (if a0_1<=8 then (if a0_2>=1 then (some (decide (a0_2<=bt102.2.2.2.2.1))) else (some false)) else (some false)) else (some false)) else (some false))
theorem avz.calls (f0 h0 i0:Int) (r:Bool) (w:World) (h:avz.f f0 h0 i0=some r):
 Calls prog 41 #[.agg #[.int .i64 f0, .int .i64 h0, .int .i64 i0]] w fun e w'=>e= .returned (.bool r)/\Below w.heap.size w w':=by
 have A0:=underlying23;have v0:=underlying109;have HB:=Za (Zw w.heap.size w);have H:=h;clear h;unfold avz.f at H;obtain ⟨⟨l0,q0,n0,k0,p0,o0⟩,A2,H⟩:=ob_ H
 (try dsimp only at H)
 have HH:=Za H;clear H;go_enter func41,ntmps41
 go_wp2_with (first|((with_reducible refine aTz (N:=1) rfl ?_);refine bx_ 1 #[.int .i64 f0, .int .i64 h0, .int .i64 i0] 23 ?_;intro g0 hg w7 e0 hb;have n_:=Zb (hs_ HB hb) (Zb (Za (e0)) (Zb (ag_ HB g0) (ag_ HB g0)));clear HB;obtain ⟨HB,a0,z0,r0⟩:=n_;clear hb e0 hg;obtain ⟨_,_,_,_,_,_⟩:=bc3_ a0.o)|((with_reducible refine aaz (f:=75) rfl ?_);refine gl_ (some 8) func75 #[.int .i64 f0] ?_;(with_reducible refine (bnz.calls f0 l0 q0 n0 k0 p0 o0 _ A2.o).mono ?_);rintro e w9 ⟨rfl,hb⟩;refine ⟨_,rfl,?_⟩;have n_:=Zb (bb_ a0 hb) (hs_ HB hb);clear a0 HB;obtain ⟨a0,HB⟩:=n_;(try clear hb))|((with_reducible refine aTz (N:=3) rfl ?_);refine cgz ?hg (N:=3) ?hd (cs:= #[.string (⟨#[]⟩:ByteArray), .int .i64 0, .int .u32 0, .int .u8 0, .int .i64 0]) (t:=109) ?hr ?_;(case hd=>rfl);(case hg=>rfl);(case hr=>first|(go_simp;done)|(go_simp;rfl));intro b0 hg B0 e0 hb;have n_:=Zb (bb_ a0 hb) (Zb (hs_ HB hb) (Zb (Za (e0)) (Zb (ag_ HB b0) (Zb (ag_ HB b0) (Zb (n1_ a0 b0) (n2_ a0 b0))))));clear a0 HB;obtain ⟨a0,HB,j0,u0,w0,c0,d0⟩:=n_;clear hb e0 hg;have y0:=d0.o;have t0:=c0.o;obtain ⟨_,_,_,_,_,_,_,_,_,_⟩:=bc5_ j0.o;obtain ⟨_,_,_,_,_,_⟩:=bc3_ a0.o))
 all_goals
  go_ret;refine ⟨congrArg (fun b=>Ending.returned (.bool b)) ?_,bl_⟩;have H:=HH.o
  simp_all
 all_goals (rw [Yb (by omega)] at H;simp_all)
theorem S_F {w:World} {e t B:Nat} {k:IntKind} {ok:Nat->Prop} {v:Value} {xs:List (List Int)} (h:Kd.S (dM e k) t w B ok v xs): ∃A c,v= .slice A xs.length c/\xs.length<=c/\Kd.F (dM e k) w ok A xs.length xs:=by
 have hR:=Kd.S_R h;obtain ⟨A,c,rfl,hle, -⟩:=Kd.dwz hR;exact ⟨A,c,rfl,hle,fun W' hW=>(Kd.aHz (Kd.dpz hR hW)).2.2⟩
theorem S_FG {w:World} {g B:Nat} {wb p:Int} {S:Nat->Prop} {v:Value} {xs:List (List Int)} (h:Kd.S (dM 3 .i64) 57 w B (fun _=>True) v xs) (hF:Fd w g wb p S): ∃A c,v= .slice A xs.length c/\xs.length<=c/\Kd.F (dM 3 .i64) w (NotG g) A xs.length xs:=by
 obtain ⟨a0,hg⟩:=Fd.cells hF;obtain ⟨A,c,e,hle,hf⟩:=S_F (Kd.S_types h hg (by decide));exact ⟨A,c,e,hle,Kd.cdz hf (fun q hq=>hq.2)⟩
def rawM (wb:Int) (rows cols:Nat):List (List Int):=madeF (fun (i j:Nat)=>gpow wb (i:Int) (j:Int)) rows cols
def isalM (wb:Int) (rows cols:Nat):List (List Int):=madeF (fun (i j:Nat)=>gpow wb (gpow wb 2 (i:Int)) (j:Int)) rows cols
theorem Raw.calls (g:Nat) (wb:Int) (S:Nat->Prop) (rows cols:Nat) (W:World) (hw:wb=8\/wb=16) (hF:Fd W g wb (fpoly wb) S) (hS: ∀k,S k->k<W.heap.size) (h1:1<=rows) (h2:rows<=20) (h3:1<=cols) (h4:cols<=20):
  Calls prog 160 #[.pointer (some ⟨g,0,none⟩), .int .i64 (rows:Int), .int .i64 (cols:Int)] W fun e w'=> ∃v,e= .returned (.tuple #[v, .int .i64 0])/\Kd.S (dM 3 .i64) 57 w' W.heap.size (fun _=>True) v (rawM wb rows cols)/\Fd w' g wb (fpoly wb) S/\BB W w' g:=by
 have HM:=Za (madeRaw.calls g W.heap.size wb S rows cols (W.alloc (.cells #[.pointer (some ⟨g,0,none⟩)] 72)) hw (hF.alloc _) (fun k hk=>by have:=hS k hk;simp;omega) (heap_alloc_new _ _) (by omega) (by omega));have e1: ¬(rows:Int)<1:=by omega
 have e2: ¬(20:Int)<(rows:Int):=by omega
 have e3: ¬(cols:Int)<1:=by omega
 have e4: ¬(20:Int)<(cols:Int):=by omega
 have a0: ∀(fn:Fn) (first cap:Array Value) (w:World),(Instr.makeFunc fn first cap).run prog w= .ok (.func fn first cap) w:=fun _ _ _ _=>rfl
 clear hF hS hw h1 h2 h3 h4;go_enter func160,ntmps160
 go_wp2_with (first|(go_at_call 120;refine HM.o.mono ?_;rintro e w3 ⟨v,rfl,q1,q2,q3⟩))
 go_ret2;exact ⟨_,rfl,Kd.cMz q1 (by simp),q2,(BB.alloc (BB.refl W g) _).trans q3⟩
theorem Isal.calls (g:Nat) (wb:Int) (S:Nat->Prop) (k m:Nat) (W:World) (hw:wb=8\/wb=16) (hF:Fd W g wb (fpoly wb) S) (hS: ∀k,S k->k<W.heap.size) (h1:1<=k) (h2:1<=m) (h3:k<20) (h4:m<20) (h5:k+m<=20):
  Calls prog 78 #[.pointer (some ⟨g,0,none⟩), .int .i64 (k:Int), .int .i64 (m:Int)] W fun e w'=> ∃v,e= .returned (.tuple #[v, .int .i64 0])/\Kd.S (dM 3 .i64) 57 w' W.heap.size (fun _=>True) v (isalM wb m k)/\Fd w' g wb (fpoly wb) S/\BB W w' g:=by
 have HM:=Za (madeIsal.calls g W.heap.size wb S m k (W.alloc (.cells #[.pointer (some ⟨g,0,none⟩)] 72)) hw (hF.alloc _) (fun k hk=>by have:=hS k hk;simp;omega) (heap_alloc_new _ _) (by omega) (by omega));have HT:=Za (fits.calls g k m (W.alloc (.cells #[.pointer (some ⟨g,0,none⟩)] 72)) h1 h2 h3 h4 h5);have a0: ∀(fn:Fn) (first cap:Array Value) (w:World),(Instr.makeFunc fn first cap).run prog w= .ok (.func fn first cap) w:=fun _ _ _ _=>rfl
 clear hF hS hw h1 h2 h3 h4 h5;go_enter func78,ntmps78
 go_wp2_with (first|(go_at_call 119;refine HT.o.mono ?_;rintro e w3 ⟨rfl,rfl⟩)|(go_at_call 120;refine HM.o.mono ?_;rintro e w3 ⟨v,rfl,q1,q2,q3⟩))
 go_ret2;exact ⟨_,rfl,Kd.cMz q1 (by simp),q2,(BB.alloc (BB.refl W g) _).trans q3⟩
theorem fez {wb:Int} (tf:Nat->Nat->Int) (h: ∀i j,0<=tf i j/\tf i j<fsize wb) (rows cols:Nat): ∀r,r∈madeF tf rows cols->Good wb cols r:=by
 intro r hr;simp only [madeF,List.mem_map] at hr;obtain ⟨i, -,rfl⟩:=hr;refine ⟨by simp,fun x hx=> ?_⟩;simp only [List.mem_map] at hx;obtain ⟨j, -,rfl⟩:=hx;exact h i j
theorem rawM_good {wb:Int} (hw:wb=8\/wb=16) (rows cols:Nat): ∀r,r∈rawM wb rows cols->Good wb cols r:=fez _ (fun i j=>eiz hw _ _) rows cols
theorem rawM_length (wb:Int) (rows cols:Nat):(rawM wb rows cols).length=rows:=by simp [rawM,madeF]
def invM (wb:Int) (rows:List (List Int)):List (List Int):=(invF wb rows).1.map (·.drop rows.length)
theorem invM_good {wb:Int} (hw:wb=8\/wb=16) (rows:List (List Int)) (h: ∀r,r∈rows->Good wb rows.length r):(∀r,r∈invM wb rows->Good wb rows.length r)/\(invM wb rows).length=rows.length:=by
 have h1:=invF_good hw rows h;refine ⟨fun r hr=> ?_,by simp [invM,h1.2]⟩;simp only [invM,List.mem_map] at hr;obtain ⟨q,hq,rfl⟩:=hr;have h2:=h1.1 q hq;exact ⟨by rw [List.length_drop,h2.1];omega,fun x hx=>h2.2 x (List.mem_of_mem_drop hx)⟩
def sysM (wb:Int) (k m:Nat):List (List Int):=mulF wb (rawM wb (k+m) k) (invM wb ((rawM wb (k+m) k).take k)) k
theorem System.calls (g:Nat) (wb:Int) (S:Nat->Prop) (k m:Nat) (W:World) (hw:wb=8\/wb=16) (hF:Fd W g wb (fpoly wb) S) (hS: ∀k,S k->k<W.heap.size) (h1:1<=k) (h2:1<=m) (h3:k<20) (h4:m<20) (h5:k+m<=20) (hinv: ¬(invF wb ((rawM wb (k+m) k).take k)).2<k):
  Calls prog 123 #[.pointer (some ⟨g,0,none⟩), .int .i64 (k:Int), .int .i64 (m:Int)] W fun e w'=> ∃v,e= .returned (.tuple #[v, .int .i64 0])/\Kd.S (dM 3 .i64) 57 w' W.heap.size (fun _=>True) v (sysM wb k m)/\Fd w' g wb (fpoly wb) S/\BB W w' g:=by
 have HT:=Za (fits.calls g k m W h1 h2 h3 h4 h5);have hraw:=Raw.calls g wb S (k+m) k W hw hF hS (by omega) h5 h1 (by omega);have HN:=Za (rawM_length wb (k+m) k);have HG:=Za (rawM_good hw (k+m) k);have HW:=Za hw;have HS:=Za hS;have HI:=Za hinv;have hsum:wrap64 ((k:Int)+(m:Int))=(k:Int)+(m:Int):=by unfold wrap64;omega
 rw [show ((k+m:Nat):Int)=(k:Int)+(m:Int) by omega] at hraw;have HX:=Za (show mulF wb (rawM wb (k+m) k) (invM wb ((rawM wb (k+m) k).take k)) k=sysM wb k m from rfl);generalize sysM wb k m=res at HX|-;generalize rawM wb (k+m) k=raw at hraw HN HG HI HX;have d0:=Za hraw;clear hraw hinv hF hS hw;go_enter func123,ntmps123
 go_wp2_with (first|(go_at_call 119;refine HT.o.mono ?_;rintro e w3 ⟨rfl,rfl⟩))
 go_wp2_with fail
 refine d0.o.mono ?_;rintro e w1 ⟨v1,rfl,q1,q2,q3⟩;obtain ⟨o,cap,rfl, -, -, -⟩:=Kd.S_form q1 (by rw [HN.o];omega);obtain ⟨A,c,he,hle,hf⟩:=S_FG q1 q2;injection he with i0 o0 k0
 subst i0;subst k0;rw [HN.o] at hle|-;have p0:=Za q2;have g0:=Za q3;have l0:=Za hf;have htl:(raw.take k).length=k:=by rw [List.length_take,HN.o];omega
 have hgt: ∀r,r∈raw.take k->Good wb k r:=fun r hr=>HG.o r (List.mem_of_mem_take hr)
 have f0:=Za (show∀q,S q->q<w1.heap.size from fun q hq=>Zp (HS.o q hq) q3.size);have a0:=Inverse.calls g wb S (some ⟨o,0,none⟩) cap (raw.take k) w1 HW.o ⟨by omega,by omega,by omega,by omega,fun r hr=>by rw [htl];exact hgt r hr⟩ q2 f0.o (by have:=Kd.F_now (Kd.F_take hf (show k<=raw.length by rw [HN.o];omega));exact this);have b0:=Za (invM_good HW.o (raw.take k) (by rw [htl];exact hgt));rw [htl] at a0 b0;rw [Yb HI.o] at a0
 have j0:=Za (show Calls prog 97 #[.pointer (some ⟨g,0,none⟩), .slice (some ⟨o,0,none⟩) k cap] w1 fun e w'=> ∃v,e= .returned (.tuple #[v, .int .i64 0])/\Kd.S (dM 3 .i64) 57 w' w1.heap.size (fun _=>True) v (invM wb (raw.take k))/\Fd w' g wb (fpoly wb) S/\BB w1 w' g from a0.mono (by
  rintro e w' ⟨v,e1,e2,e3,e4⟩;rw [Yb HI.o] at e2;refine ⟨v,e1,?_,e3,e4⟩;unfold invM;rw [htl]
  exact e2))
 have i1:(0:Int)<=(k:Int):=by omega
 have i2:(k:Int)<=(cap:Int):=by omega
 clear q1 q2 q3 hf htl hgt a0 o0
 go_wp2_with fail
 refine j0.o.mono ?_;rintro e w2 ⟨v2,rfl,q1,q2,q3⟩;obtain ⟨A2,c2,rfl,c0,e0⟩:=S_FG q1 q2;have hil:=b0.o.2;have hmul:=matrix_Mul.calls g wb S (some ⟨o,0,none⟩) A2 cap c2 k raw (invM wb (raw.take k)) w2 HW.o ⟨by rw [HN.o];omega,by rw [HN.o];omega,by omega,by omega,fun r hr=>by rw [hil];exact HG.o r hr⟩ ⟨by omega,by omega,by omega,by omega,fun r hr=>b0.o.1 r hr⟩ q2 (fun q hq=>Zp (f0.o q hq) q3.size) (F_bb l0.o q3) e0;rw [HX.o,HN.o,hil] at hmul;rw [hil];have n0:=Za hmul;have h0:=Za (g0.o.trans q3);have HZ:=Za (Zt g0.o.size q3.size);clear q1 q2 q3 e0 hil hmul c0
 go_wp2_with (first|(go_at_call 161;refine n0.o.mono ?_;rintro e w5 ⟨v5,rfl,q1,q2,q3⟩))
 go_ret2;exact ⟨_,rfl,Kd.cMz q1 HZ.o,q2,h0.o.trans q3⟩
theorem add_map (a k:Nat):Option.map (fun x=>x.add (k*(dM 3 .i64).sz)) (some (⟨a,0,none⟩:Addr))=some ⟨a,k,none⟩:=by
 show some ((⟨a,0,none⟩:Addr).add (k*1))=_;unfold Addr.add;split<;>simp_all
theorem rawM_take (wb:Int) (a k:Nat):(rawM wb (k+a) k).take k=rawM wb k k:=by
 unfold rawM madeF;rw [<-List.map_take,List.take_range,Nat.min_eq_left (by omega)]
theorem sys_inv: ∀k,k<9-> ¬(invF 8 (rawM 8 k k)).2<k:=by decide+kernel
def MatRes (M:List (List Int)) (m:Nat) (W:World) (g:Nat) (e:Ending) (w':World):Prop:= ∃A c,e= .returned (.tuple #[.slice A m c, .int .i64 0])/\m<=c/\Kd.F (dM 3 .i64) w' (fun q=>W.heap.size<=q) A m M/\BB W w' g
def ParRes (M:List (List Int)) (m:Nat) (W:World) (e:Ending) (w':World):Prop:= ∃A c,e= .returned (.tuple #[.slice A m c, .int .i64 0])/\m<=c/\Kd.F (dM 3 .i64) w' (fun q=>W.heap.size<=q) A m M/\Below W.heap.size W w'
theorem MatRes.of_S {W w':World} {g:Nat} {v:Value} {M:List (List Int)} {m:Nat} (hM:M.length=m) (h:Kd.S (dM 3 .i64) 57 w' W.heap.size (fun _=>True) v M) (hb:BB W w' g):MatRes M m W g (.returned (.tuple #[v, .int .i64 0])) w':=by
 obtain ⟨A,c,rfl,hl,hc⟩:=S_F (Kd.cPz (Kd.bDz h) (fun q hq=>hq.2.1));rw [hM] at hl hc|-;exact ⟨A,c,rfl,hl,hc,hb⟩
def parM (p:Int) (k m:Nat):List (List Int):=
 if p=1 then jvM 8 k m else if p=2 then cauM 16 (runL 0 m) (runL m k) else if p=3 then isalM 8 m k else if p=4 then cauM 8 (runL k m) (runL 0 k) else (sysM 8 k m).drop k
theorem pfn1 (g k m:Nat) (W:World) (hF:Fresh W g 8) (h1:1<=k) (h2:1<=m) (h3:k<=8) (h4:m<=4):Calls prog 76 #[.pointer (some ⟨g,0,none⟩), .int .i64 (k:Int), .int .i64 (m:Int)] W (MatRes (parM 1 k m) m W g):=by
 refine (jpar.calls g 8 (fun _=>False) k m W (.inl rfl) (hF.fd _ (fun h=>h)) (fun _ h=>h.elim) h1 h2 h3 h4).mono ?_;rintro e w' ⟨A,c,rfl,q1,q2,q3,q4⟩;exact ⟨A,c,rfl,q1,Kd.cdz q2 (fun q hq=>hq.2),q4⟩
theorem pfn2 (g k m:Nat) (W:World) (hF:Fresh W g 16) (h1:1<=k) (h2:1<=m) (h3:k<=8) (h4:m<=4):Calls prog 77 #[.pointer (some ⟨g,0,none⟩), .int .i64 (k:Int), .int .i64 (m:Int)] W (MatRes (parM 2 k m) m W g):=by
 refine (cOrig.calls g 16 (fun _=>False) k m W (.inr rfl) (hF.fd _ (fun h=>h)) (fun _ h=>h.elim) h1 h2 h3 h4).mono ?_;rintro e w' ⟨v,rfl,q1,q2,q3⟩;exact MatRes.of_S (M:=parM 2 k m) (show (cauM 16 (runL 0 m) (runL m k)).length=m by simp [cauM,runL]) q1 q3
theorem pfn3 (g k m:Nat) (W:World) (hF:Fresh W g 8) (h1:1<=k) (h2:1<=m) (h3:k<=8) (h4:m<=4):Calls prog 78 #[.pointer (some ⟨g,0,none⟩), .int .i64 (k:Int), .int .i64 (m:Int)] W (MatRes (parM 3 k m) m W g):=by
 refine (Isal.calls g 8 (fun _=>False) k m W (.inl rfl) (hF.fd _ (fun h=>h)) (fun _ h=>h.elim) h1 h2 (by omega) (by omega) (by omega)).mono ?_;rintro e w' ⟨v,rfl,q1,q2,q3⟩;exact MatRes.of_S (M:=parM 3 k m) (show (isalM 8 m k).length=m by simp [isalM,madeF]) q1 q3
theorem pfn4 (g k m:Nat) (W:World) (hF:Fresh W g 8) (h1:1<=k) (h2:1<=m) (h3:k<=8) (h4:m<=4):Calls prog 79 #[.pointer (some ⟨g,0,none⟩), .int .i64 (k:Int), .int .i64 (m:Int)] W (MatRes (parM 4 k m) m W g):=by
 refine (cIsal.calls g 8 (fun _=>False) k m W (.inl rfl) (hF.fd _ (fun h=>h)) (fun _ h=>h.elim) h1 h2 h3 h4).mono ?_;rintro e w' ⟨v,rfl,q1,q2,q3⟩;exact MatRes.of_S (M:=parM 4 k m) (show (cauM 8 (runL k m) (runL 0 k)).length=m by simp [cauM,runL]) q1 q3
theorem behind.calls (g k m:Nat) (W:World) (hF:Fresh W g 8) (h1:1<=k) (h2:1<=m) (h3:k<=8) (h4:m<=4):Calls prog 80 #[.pointer (some ⟨g,0,none⟩), .int .i64 (k:Int), .int .i64 (m:Int)] W (MatRes ((sysM 8 k m).drop k) m W g):=by
 have HS:=Za (System.calls g 8 (fun _=>False) k m W (.inl rfl) (hF.fd _ (fun h=>h)) (fun _ h=>h.elim) h1 h2 (by omega) (by omega) (by omega) (by rw [rawM_take];exact sys_inv k (by omega)));have HL:=Za (show (sysM 8 k m).length=k+m by simp [sysM,mulF,rawM,madeF]);generalize sysM 8 k m=M at HS HL|-;obtain ⟨n,hn⟩: ∃n,k+m=n:=⟨_,rfl⟩;rw [hn] at HL;have hnm:n - k=m:=by omega
 have e1:(0:Int)<=(k:Int):=by omega
 have e2:(k:Int)<=(n:Int):=by omega
 have e3:k<n:=by omega
 clear hF h1 h2 h3 h4 hn;go_enter func80,ntmps80
 go_wp2_with fail
 refine HS.o.mono ?_;rintro e w1 ⟨v,rfl,q1,q2,q3⟩;obtain ⟨a,c,rfl, -, -, -⟩:=Kd.S_form q1 (by rw [HL.o];omega);obtain ⟨-,hl,hc⟩:=Kd.S_reads' q1;have f1: ¬c=k:=by have:=HL.o;omega
 have hf:=Kd.S_F (Kd.cPz (Kd.bDz q1) (fun q hq=>hq.2.1));have HD:=Za (Kd.F_imp hf (fun W' hc'=>Kd.C_drop hc' (m:=k) (c:=c) (by rw [HL.o];omega) hl));rw [Yb f1,List.length_drop,HL.o,hnm,add_map] at HD;have HC:=Za (show m<=c - k by have:=HL.o;omega);have HB:=Za q3;rw [HL.o];clear q1 q2 q3 hl hc hf HS HL;go_wp2;go_ret2;exact ⟨_,_,rfl,HC.o,HD.o,HB.o⟩
theorem pfn5 (g k m:Nat) (W:World) (hF:Fresh W g 8) (h1:1<=k) (h2:1<=m) (h3:k<=8) (h4:m<=4):Calls prog 80 #[.pointer (some ⟨g,0,none⟩), .int .i64 (k:Int), .int .i64 (m:Int)] W (MatRes (parM 5 k m) m W g):=behind.calls g k m W hF h1 h2 h3 h4
theorem pfn6 (g k m:Nat) (W:World) (hF:Fresh W g 8) (h1:1<=k) (h2:1<=m) (h3:k<=8) (h4:m<=4):Calls prog 80 #[.pointer (some ⟨g,0,none⟩), .int .i64 (k:Int), .int .i64 (m:Int)] W (MatRes (parM 6 k m) m W g):=behind.calls g k m W hF h1 h2 h3 h4
def pwArr:Array Value:= #[.func (.func 76) #[] #[], .func (.func 77) #[] #[], .func (.func 78) #[] #[], .func (.func 79) #[] #[], .func (.func 80) #[] #[], .func (.func 80) #[] #[]]
theorem pway (p:Int) (q:Nat) (F:FuncId) (fn:Func) (hfn:prog.funcs[F]?=some fn) (hnm:(fn.name== "runtime.NumGoroutine")=false) (hbd:fn.body.isSome=true) (hq:p=(q:Int)+1) (o0:q<6) (hcell:pwArr[q]?=some (.func (.func F) #[] #[])) (k m:Nat) (res:List (List Int)) (W:World) (hm:avz.f p (k:Int) (m:Int)=some true) (hp: ∀g W',Fresh W' g (pbits p)->Calls prog F #[.pointer (some ⟨g,0,none⟩), .int .i64 (k:Int), .int .i64 (m:Int)] W' (MatRes res m W' g)):
  Calls prog 44 #[.agg #[.int .i64 p, .int .i64 (k:Int), .int .i64 (m:Int)]] W (ParRes res m W):=by
 have HM:=Za hm;have HP:=Za hp;have l0:=Za hfn;have j0:=Za hnm;have i0:=Za hbd;have h0:=Za hcell;have k0:=Za (dLz.calls p (by omega));have hwq:wrap64 (p - 1)=(q:Int):=by unfold wrap64;omega
 have hb:=heap_alloc_new W (.cells #[.int .i64 p, .int .i64 (k:Int), .int .i64 (m:Int)] 23);have HB:=Za (show Below W.heap.size W (W.alloc (.cells #[.int .i64 p, .int .i64 (k:Int), .int .i64 (m:Int)] 23)) from aoz (Zw _ _) _);have hu:=underlying23;have q0:(0:Int)<=(q:Int):=by omega
 have n0:(q:Int)<6:=by omega
 clear hm hp hfn hnm hbd hcell hq;go_enter func44,ntmps44
 go_wp2_with fail
 generalize W.alloc (.cells #[.int .i64 p, .int .i64 (k:Int), .int .i64 (m:Int)] 23)=w1 at HB hb|-;have HX:=Za hb;clear hb;refine (avz.calls p (k:Int) (m:Int) true _ HM.o).mono ?_;rintro e w2 ⟨rfl,d0⟩;have f0:=Za (HB.o.trans (d0.mono HB.o.size));have e0:=Za (aNz HX.o d0);have p0:=Za d0.size;obtain ⟨fb,g0⟩: ∃fb,fb=W.heap.size:=⟨_,rfl⟩;rw [<-g0] at e0|-;clear d0 g0
 go_wp2_with fail
 have HA:=Za (heap_alloc_new w2 (.cells pwArr 113));have b0:=Za (aNz e0.o (aoz (Zw w2.heap.size w2) (.cells pwArr 113)));have a0:=Za (aoz f0.o (.cells pwArr 113));obtain ⟨ab,hab⟩: ∃ab,ab=w2.heap.size:=⟨_,rfl⟩;rw [<-hab] at HA|-;clear hab e0 f0;rw [show (#[.func (.func 76) #[] #[], .func (.func 77) #[] #[], .func (.func 78) #[] #[], .func (.func 79) #[] #[], .func (.func 80) #[] #[], .func (.func 80) #[] #[]] :Array Value)=pwArr from rfl];generalize w2.alloc (.cells pwArr 113)=w3 at HA b0 a0|-;have c0:w3.cell? ⟨fb,0,none⟩=some (.int .i64 p):=(abz b0.o 0).trans rfl;have c1:w3.cell? ⟨fb,1,none⟩=some (.int .i64 (k:Int)):=(abz b0.o 1).trans rfl;have c2:w3.cell? ⟨fb,2,none⟩=some (.int .i64 (m:Int)):=(abz b0.o 2).trans rfl;have c3:w3.cell? ⟨ab,q,none⟩=some (.func (.func F) #[] #[]):=(abz HA.o q).trans h0.o;refine ccz (n:=17) (S:=fun w'=>w'.cell? ⟨fb,0,none⟩=some (.int .i64 p)/\w'.cell? ⟨fb,1,none⟩=some (.int .i64 (k:Int))/\w'.cell? ⟨fb,2,none⟩=some (.int .i64 (m:Int))/\w'.cell? ⟨ab,q,none⟩=some (.func (.func F) #[] #[])) (ds:= [12]) (bA 17 0) kr_ rfl rfl ⟨c0,c1,c2,c3⟩ (fun hHeld=> ?_)
 refine pu_ 0 9 1 ?_;refine pu_ 5 14 33 ?_;refine pu_ 8 17 289 ?_;refine pu_ 10 19 1313 ?_;refine tk_ 1 10 1315 hHeld ?_;refine pu_ 2 11 1319 ?_;refine pu_ 3 12 1327 ?_;refine tk_ 4 13 1343 hHeld ?_;refine tk_ 6 15 1407 hHeld ?_;refine tk_ 9 18 1919 hHeld ?_;refine tk_ 11 20 3967 hHeld ?_;refine one_ (i:=7) (N:=some 16) (bA 17 4095) rfl rfl kr_ (by decide) (fun K hK=> ?_);refine goes_ func45 kr_ rfl #[.int .i64 p] (by rfl) rfl rfl am_ ?_
 with_reducible refine (k0.o w3.drew).mono ?_
 rintro e w4 ⟨g,rfl,q1,q2,q3⟩;refine ⟨_,rfl,?_⟩;refine hK.out _ _ ⟨a3z q3 c0,a3z q3 c1,a3z q3 c2,a3z q3 c3⟩ (fun hHeld=> ?_);clear hK K;refine norm_ (a':= ?_) ?_ ?_;rotate_left
 ·show Act.put _ (some 16) _=_;simp only [Act.put,Zg,Zh,Zi,i64_w,i32_w];rfl
 refine last_ (i:=12) (N:=some 21) (bA 17 8191) rfl rfl kr_ (by decide) (fun K hK=> ?_);refine goesV_ l0.o j0.o i0.o (.tmp 13) #[] #[] #[.pointer (some ⟨g,0,none⟩), .int .i64 (k:Int), .int .i64 (m:Int)] (by rfl) (by rfl) rfl rfl am_ ?_
 with_reducible refine (HP.o g w4 q1).mono ?_
 rintro e w5 ⟨A,c,rfl,p1,p2,p3⟩;refine ⟨_,rfl,?_⟩;refine hK.out _ _ ?_;clear hK K;refine norm_ (a':= ?_) ?_ ?_;rotate_left
 ·show Act.put _ (some 21) _=_;simp only [Act.put,Zg,Zh,Zi,i64_w,i32_w];rfl
 refine pu_ 13 22 16383 ?_;refine pu_ 14 23 32767 ?_;refine pu_ 15 2 65535 ?_;refine pu_ 16 3 131071 ?_;refine done_ kr_ ?_;clear hwq;go_wp2;go_ret2;exact ⟨_,_,rfl,p1,Kd.cdz p2 (fun q hq=>Zt a0.o.size (Zt q3.size hq)),p3.below ((show Below W.heap.size W w3.drew from dvz a0.o).trans (q3.mono a0.o.size)) (Zt a0.o.size q2)⟩
theorem pway1 (k m:Nat) (W:World) (h1:1<=k) (h2:1<=m) (h3:k<=8) (h4:m<=4) (hm:avz.f 1 (k:Int) (m:Int)=some true):
  Calls prog 44 #[.agg #[.int .i64 1, .int .i64 (k:Int), .int .i64 (m:Int)]] W (ParRes (parM 1 k m) m W):=
 pway 1 0 76 _ func76 kr_ rfl rfl (by decide) rfl k m _ W hm (fun g W' h=>pfn1 g k m W' (by rwa [show pbits 1=8 by simp [pbits]] at h) h1 h2 h3 h4)
theorem pway2 (k m:Nat) (W:World) (h1:1<=k) (h2:1<=m) (h3:k<=8) (h4:m<=4) (hm:avz.f 2 (k:Int) (m:Int)=some true):
  Calls prog 44 #[.agg #[.int .i64 2, .int .i64 (k:Int), .int .i64 (m:Int)]] W (ParRes (parM 2 k m) m W):=
 pway 2 1 77 _ func77 kr_ rfl rfl (by decide) rfl k m _ W hm (fun g W' h=>pfn2 g k m W' (by rwa [show pbits 2=16 by simp [pbits]] at h) h1 h2 h3 h4)
theorem pway3 (k m:Nat) (W:World) (h1:1<=k) (h2:1<=m) (h3:k<=8) (h4:m<=4) (hm:avz.f 3 (k:Int) (m:Int)=some true):
  Calls prog 44 #[.agg #[.int .i64 3, .int .i64 (k:Int), .int .i64 (m:Int)]] W (ParRes (parM 3 k m) m W):=
 pway 3 2 78 _ func78 kr_ rfl rfl (by decide) rfl k m _ W hm (fun g W' h=>pfn3 g k m W' (by rwa [show pbits 3=8 by simp [pbits]] at h) h1 h2 h3 h4)
theorem pway4 (k m:Nat) (W:World) (h1:1<=k) (h2:1<=m) (h3:k<=8) (h4:m<=4) (hm:avz.f 4 (k:Int) (m:Int)=some true):
  Calls prog 44 #[.agg #[.int .i64 4, .int .i64 (k:Int), .int .i64 (m:Int)]] W (ParRes (parM 4 k m) m W):=
 pway 4 3 79 _ func79 kr_ rfl rfl (by decide) rfl k m _ W hm (fun g W' h=>pfn4 g k m W' (by rwa [show pbits 4=8 by simp [pbits]] at h) h1 h2 h3 h4)
theorem pway5 (k m:Nat) (W:World) (h1:1<=k) (h2:1<=m) (h3:k<=8) (h4:m<=4) (hm:avz.f 5 (k:Int) (m:Int)=some true):
  Calls prog 44 #[.agg #[.int .i64 5, .int .i64 (k:Int), .int .i64 (m:Int)]] W (ParRes (parM 5 k m) m W):=
 pway 5 4 80 _ func80 kr_ rfl rfl (by decide) rfl k m _ W hm (fun g W' h=>pfn5 g k m W' (by rwa [show pbits 5=8 by simp [pbits]] at h) h1 h2 h3 h4)
theorem pway6 (k m:Nat) (W:World) (h1:1<=k) (h2:1<=m) (h3:k<=8) (h4:m<=4) (hm:avz.f 6 (k:Int) (m:Int)=some true):
  Calls prog 44 #[.agg #[.int .i64 6, .int .i64 (k:Int), .int .i64 (m:Int)]] W (ParRes (parM 6 k m) m W):=
 pway 6 5 80 _ func80 kr_ rfl rfl (by decide) rfl k m _ W hm (fun g W' h=>pfn6 g k m W' (by rwa [show pbits 6=8 by simp [pbits]] at h) h1 h2 h3 h4)
end Go.Proofs.Xc
end
