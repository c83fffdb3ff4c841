-- Joined texts of this work (wip/tools/bundle.py).
import Derived.Test.YtpdakdcmahlghaaGreatBCodecEncodes10
set_option maxHeartbeats 8000000
set_option maxRecDepth 100000
set_option linter.unusedVariables false
set_option linter.unusedSimpArgs false
section
namespace Go.Proofs.Xc
open Go.RowKit Go.Proofs.Pw Go.Proofs.Pl Go.Proofs.Pm
attribute [local go_sem] baz bbz bmz bnz a2z a3z bcz bdz
def mapTo (f:Int->Int) (row:List Int) (j:Nat):List Int:=(row.take j).map f++row.drop j
theorem mapTo_zero (f:Int->Int) (row:List Int):mapTo f row 0=row:=by simp [mapTo]
theorem mapTo_full (f:Int->Int) (row:List Int):mapTo f row row.length=row.map f:=by simp [mapTo]
theorem mapTo_at (f:Int->Int) (row:List Int) (j:Nat) (x:Int) (h:row[j]?=some x):(mapTo f row j)[j]?=some x:=by
 have hi:=(Zk h).1;unfold mapTo;rw [List.getElem?_append_right (by simp;omega)];simp only [List.length_map,List.length_take,List.getElem?_drop];rw [show j+(j - min j row.length)=j by omega];exact h
theorem mapTo_step (f:Int->Int) (row:List Int) (j:Nat) (x:Int) (h:row[j]?=some x):(mapTo f row j).set j (f x)=mapTo f row (j+1):=by
 obtain ⟨hi,e⟩:=Zk h;unfold mapTo;rw [List.set_append_right _ _ (by simp;omega),List.length_map,List.length_take,show j - min j row.length=0 by omega,List.drop_eq_getElem_cons hi,Zh,List.take_add_one,h,List.map_append,List.append_assoc];rfl
def mulB (wb c:Int) (b:List Int):List Int:=bytesF wb ((wordsF wb b).map (gmul wb c))
theorem e1z (wb:Int) (b:List Int):(wordsF wb b).length=b.length / wN wb:=d9z _ _ _
theorem rWords.ok (g : Nat) (wb p : Int) (S : Nat -> Prop) (A : Option Addr) (c : Nat) (b : List Int) (W : World) (hw : wb = 8 \/ wb = 16) (hF : Fd W g wb p S) (hb : Kd.C (Kd.int .u8) W A b.length b) (hl : b.length <= 1000000) (hd : b.length % wN wb = 0) :
  Calls Tryz.prog 101 #[.pointer (some ⟨g,0,none⟩), .slice A b.length c] W (WordsOk W (wordsF wb b)):=by
 rcases hw with rfl|rfl
 ·exact rWords.ok8 g p S A c b W hF hb hl
 ·exact rWords.ok16 g p S A c b W hF hb hl hd
theorem rMul.badw (g : Nat) (wb p c : Int) (S : Nat -> Prop) (A : Option Addr) (cc : Nat) (b : List Int) (W : World) (hw : wb = 8 \/ wb = 16) (hF : Fd W g wb p S) (hl : b.length <= 1000000) (hd : b.length % wN wb ≠ 0) :
  Calls Tryz.prog 69 #[.pointer (some ⟨g,0,none⟩), .int .i64 c, .slice A b.length cc] W fun e w'=>e= .returned (.tuple #[.slice none 0 0, .int .i64 1])/\Drawn0 W w':=by
 have HC:=Za (rWords.bad g wb p S A cc b W hw hF hl hd);clear hw hF hl hd;go_enter Tryz.func69,Tryz.ntmps69
 go_wp2_with fail
 refine HC.out.mono ?_;rintro e w1 ⟨rfl,m1,rfl⟩;go_wp2;go_ret2;exact ⟨rfl,Drawn0.step (Drawn0.refl _) _⟩
theorem rMul.ok (g : Nat) (wb c : Int) (S : Nat -> Prop) (A : Option Addr) (cc : Nat) (b : List Int) (W : World) (hw : wb = 8 \/ wb = 16) (hF : Fd W g wb (fpoly wb) S) (hS : ∀ k, S k -> k < W.heap.size) (hb : Kd.C (Kd.int .u8) W A b.length b) (hl : b.length <= 1000000) (hd : b.length % wN wb = 0) (hc : inF wb c = true) :
  Calls Tryz.prog 69 #[.pointer (some ⟨g,0,none⟩), .int .i64 c, .slice A b.length cc] W fun e w'=> ∃v,e= .returned (.tuple #[v, .int .i64 0])/\(Kd.int .u8).R 5 w' W.heap.size (fun _=>True) v (mulB wb c b)/\Fd w' g wb (fpoly wb) S/\BB W w' g:=by
 have HWD:=Za (rWords.ok g wb (fpoly wb) S A cc b W hw hF hb hl hd);have HF0:=Za hF;have HW:=Za hw;have HS:=Za hS;have HCI:=Za hc
 have hwl:(wordsF wb b).length<=1000000:=by
  rw [e1z];exact Zt (Nat.div_le_self _ _) hl
 obtain ⟨res,hres⟩: ∃r,mulB wb c b=r:=⟨_,rfl⟩;have HRES:=Za hres;rw [hres];unfold mulB at HRES;generalize wordsF wb b=l at HWD hwl HRES;generalize b.length=bl at HWD|-;clear hF hw hS hc hres hb hl hd;obtain ⟨n,hn⟩: ∃n,l.length=n:=⟨_,rfl⟩;have HLEN:=Za hn;rw [hn] at hwl;clear hn;go_enter Tryz.func69,Tryz.ntmps69
 go_wp2_with fail
 refine HWD.out.mono ?_;rintro e w1 ⟨lb,rfl,q1,q2,q3⟩;rw [HLEN.out];have HX1:=Za (show w1.heap[lb]?=some (.cells (nums .i64 (mapTo (gmul wb c) l 0)).toArray 3 (0,0)) by rw [mapTo_zero];exact q1);have HLB:=Za q2;have HB1:=Za (BB.of_below q3 g);have HF1:=Za (show Fd w1 g wb (fpoly wb) (fun q=>S q\/q=lb) from ((HF0.out.more).below q3).thin (fun q _ hs=>hs.elim .inl (fun e=> .inr (by omega))));have HGL:=Za (show lb≠g by have:=HF0.out.lt;omega);have HRN:=Za (rin.calls g wb (fpoly wb) c (fun q=>S q\/q=lb) w1 HW.out HF1.out);rw [HCI.out] at HRN;clear q1 q2 q3 HWD HF0
 go_wp2_with fail
 refine HRN.out.mono ?_;rintro e w2 ⟨rfl,m2,rfl⟩;have HX2:=Za (show (w1.drewN m2).heap[lb]?=some (.cells (nums .i64 (mapTo (gmul wb c) l 0)).toArray 3 (0,0)) from HX1.out);have HB2:=Za (HB1.out.drewN m2);have HF2:=Za (HF1.out.drewN m2);generalize w1.drewN m2=w2 at HX2 HB2 HF2|-;clear HX1 HB1 HF1 HRN;go_wp2
 go_loopw [28] (fun iv wr=> ∃k:Nat,k<=n/\iv= .int .i64 (k:Int)/\Aside0 (wr.heap[lb]?=some (.cells (nums .i64 (mapTo (gmul wb c) l k)).toArray 3 (0,0)))/\Aside0 (BB W wr g)/\Aside0 (Fd wr g wb (fpoly wb) (fun q=>S q\/q=lb))) (fun iv _=>n - (intOf iv).toNat)
 case atStart=>exact ⟨0,Nat.zero_le _,rfl,HX2,HB2,HF2⟩
 clear HX2 HB2 HF2;obtain ⟨w3,rfl⟩: ∃w3,w3=wr:=⟨_,rfl⟩;obtain ⟨k,hk,rfl,HX,HB,HF⟩:=hrel;by_cases hlt:k<n
 ·obtain ⟨x,hx⟩: ∃x,l[k]?=some x:=⟨_,Zf (by have:=HLEN.out;omega)⟩;have hcx:w3.cell? ⟨lb,k,none⟩=some (.int .i64 x):=(aez HX.out k).trans (dRz .i64 _ _ _ (mapTo_at _ _ _ _ hx));have HST:=Za (mapTo_step (gmul wb c) l k x hx)
  have HMU:=Za (cAz.calls g (fun q=>S q\/q=lb) wb c x w3 HW.out HF.out (fun q hq=>by
   rcases hq with hq|rfl
   ·exact Zp (HS.out q hq) HB.out.size
   ·exact a4z HX.out))
  have HXB:=Za (show∀w4,BB w3 w4 g->w4.heap[lb]?=some (.cells (nums .i64 (mapTo (gmul wb c) l k)).toArray 3 (0,0)) from fun w4 h=>(h.block lb (a4z HX.out) HGL.out).trans HX.out);have HAT:=Za (mapTo_at (gmul wb c) l k x hx);have k1:(0:Int)<=(k:Int):=by omega
  have k2:(k:Int)<(n:Int):=by omega
  clear hx
  go_wp2_with fail
  refine HMU.out.mono ?_;rintro e w4 ⟨rfl,f1,f2⟩;have HX4:=Za (HXB.out w4 f2);have hc4:w4.cell? ⟨lb,k,none⟩=some (.int .i64 x):=(aez HX4.out k).trans (dRz .i64 _ _ _ HAT.out);have hf4:=boz HX4.out k;have HX5:=Za (drz HX4.out k (gmul wb c x) HST.out);have HB5:=Za ((HB.out.trans f2).new HLB.out k (.int .i64 (gmul wb c x)));have HF5:=Za (f1.set (q:=⟨lb,k,none⟩) (.inr rfl) (.int .i64 (gmul wb c x)));clear f1 f2 hcx HMU;go_wp2;go_roundw
  case rel=>exact ⟨k+1,by omega,by go_num,HX5,HB5,HF5⟩
  case measure=>simp [intOf];omega
 ·obtain rfl:k=n:=by omega
  have HE:=Za (show mapTo (gmul wb c) l k=l.map (gmul wb c) by rw [<-HLEN.out];exact mapTo_full _ _);rw [HE.out] at HX;have hC:=C_nums HX.out (by simp;have:=HLEN.out;omega);rw [List.length_map,HLEN.out] at hC
  have HBY:=rBytes.calls g wb (fpoly wb) (fun q=>S q\/q=lb) (some ⟨lb,0,none⟩) k (l.map (gmul wb c)) w3 HW.out HF.out (by rw [List.length_map,HLEN.out];exact hC) (by rw [List.length_map,HLEN.out];omega) (fun a ha=>by
   obtain ⟨y, -,rfl⟩:=List.mem_map.1 ha
   exact bJz HW.out _ _)
  rw [HRES.out,List.length_map,HLEN.out] at HBY;have HBYS:=Za HBY;clear hC HBY
  go_wp2_with fail
  refine HBYS.out.mono ?_;rintro e w4 ⟨v,rfl,r1,r2⟩;have R1:=Za (Kd.bGz r1 HB.out.size);have R2:=Za (HF.out.below r2);have R3:=Za (HB.out.trans (BB.of_below r2 g));clear r1 r2;go_wp2;go_ret2;exact ⟨_,rfl,R1.out,R2.out.thin (fun q _ h=> .inl h),R3.out⟩
def evB (wb:Int) (b:List Int):Bool:=b.length % wN wb==0
def dotB (K:Nat) (wb:Int) (c:List Int) (rows:List (List Int)):Option (List Int×Int):=if rows.all (evB wb)=true then aKz.f K (List.zipWith (mulB wb) c rows) else some ([],1)
theorem S_joinK {k : IntKind} {wq w2 : World} {g B e t gt : Nat} {gcs : Array Value} {u uv : Value} {xs : List (List Int)} {R : List Int} (HO : Kd.S (dM e k) t wq B (fun _ => True) u xs) (hg : wq.heap[g]? = some (.cells gcs gt (0, 0))) (ht : ∀ q, q ∈ t :: (dM e k).E -> q ≠ gt) (hb : BB wq w2 g) (hR : (Kd.int k).R e w2 wq.heap.size (fun _ => True) uv R) (hB : B <= wq.heap.size) :
    Kd.S (dM e k) t w2 B (fun k'=>True/\ ¬wq.heap.size<=k') u xs/\(dM e k).M w2 B (fun k'=>wq.heap.size<=k') R [uv] /\(∀k',wq.heap.size<=k'->True/\some k'≠u.ownBlock):=
  ⟨Kd.cGz (Kd.S_move (Kd.bEz (Kd.dNz HO hg ht)) (fun q hq=>hb.block q hq.2.2.1 hq.1.2)) (fun q hq=>⟨trivial,by have:=hq.2.2.1;omega⟩),
   ⟨_,rfl,Kd.bGz (Kd.aQz (Kd.cez hR) (fun q hq=>hq.2.1)) hB⟩,
   fun q hq=>⟨trivial,fun e=>by have:=Kd.R_lt (Kd.S_R HO) q e.symm;omega⟩⟩
theorem BB.then_below {W a b:World} {g:Nat} (h:BB W a g) (k:Below W.heap.size a b):BB W b g:=
 ⟨k.os.trans h.os,k.tape.trans h.tape,k.output.trans h.output,Zt h.size k.size,fun i hi hg=>(k.block i hi).trans (h.block i hi hg)⟩
theorem Fd.grown {W W1:World} {g:Nat} {wb p:Int} {S:Nat->Prop} {v:Value} {t:Nat} (h:Fd W g wb p S) (hg:W.grownBy W1 v.ownBlock) (ht: ∀k,v.ownBlock=some k-> ∃cells,W.heap[k]?=some (.cells cells t (0,0))) (h1:t≠172) (h2:t≠3):Fd W1 g wb p S:=by
 have key: ∀(k:Nat) (cs:Array Value) (q:Nat),q≠t->W.heap[k]?=some (.cells cs q (0,0))->W1.heap[k]?=some (.cells cs q (0,0)):=fun k cs q hq hk=>(hg.block k (a4z hk) (fun e=>by
  obtain ⟨c2,hc2⟩:=ht k e.symm;rw [hk] at hc2;injection hc2 with hc2
  injection hc2 with _ hc2
  exact hq hc2)).trans hk
 obtain ⟨n1,h|⟨e1,e2,a,b,ha,hb,hc,n2,n3⟩⟩:=h
 ·exact ⟨n1, .inl (key _ _ _ (Ne.symm h1) h)⟩
 ·exact ⟨n1, .inr ⟨e1,e2,a,b,key _ _ _ (Ne.symm h1) ha,key _ _ _ (Ne.symm h2) hb,key _ _ _ (Ne.symm h2) hc,n2,n3⟩⟩
theorem e2z {α β γ:Type} (f:α->β->γ) (a:List α) (b:List β) (k:Nat) (x:α) (y:β) (hx:a[k]?=some x) (hy:b[k]?=some y):List.zipWith f (a.take (k+1)) (b.take (k+1))=List.zipWith f (a.take k) (b.take k)++ [f x y] :=by
 have h1:=(Zk hx).1;have h2:=(Zk hy).1;rw [List.take_add_one,List.take_add_one,hx,hy,List.zipWith_append (by simp;omega)];rfl
theorem rDot.calls (g : Nat) (wb : Int) (S : Nat -> Prop) (C A : Option Addr) (cc ca K : Nat) (c : List Int) (rows : List (List Int)) (r1 : List Int) (r2 : Int) (W : World) (hw : wb = 8 \/ wb = 16) (hF : Fd W g wb (fpoly wb) S) (hS : ∀ k, S k -> k < W.heap.size)
  (hc:Kd.F (Kd.int .i64) W (NotG g) C c.length c) (hr:Kd.F (dM 5 .u8) W (NotG g) A rows.length rows) (hin: ∀x,x∈c->inF wb x=true) (hlen:c.length=rows.length) (h0:0<rows.length) (hsz: ∀r,r∈rows->r.length<=1000000) (hn:rows.length<=1000) (h:dotB K wb c rows=some (r1,r2)):
  Calls Tryz.prog 47 #[.pointer (some ⟨g,0,none⟩), .slice C c.length cc, .slice A rows.length ca] W fun e w'=> ∃v,e= .returned (.tuple #[v, .int .i64 r2])/\(Kd.int .u8).R 5 w' W.heap.size (fun _=>True) v r1/\Fd w' g wb (fpoly wb) S/\BB W w' g:=by
 have HF0:=Za hF;have HW:=Za hw;have HS:=Za hS;have HC:=Za hc;have HR:=Za hr;have HIN:=Za hin;have HSZ:=Za hsz;have HH:=Za h;obtain ⟨n,hnn⟩: ∃n,rows.length=n:=⟨_,rfl⟩;have HL1:=Za (hlen.trans hnn);have HL2:=Za hnn;rw [hlen] at HC|-;rw [hnn] at HC HR hn h0|-;have z1:((n:Int)==0)=false:=by simp;omega
 have z2:((n:Int) !=(n:Int))=false:=by simp
 clear hw hF hS hc hr hin hsz h hlen hnn;go_enter Tryz.func47,Tryz.ntmps47;go_wp2
 go_loopw [8,25] (fun v iv wr=> ∃k:Nat,k<=n/\iv= .int .i64 (k:Int)/\Aside0 (Kd.S (dM 5 .u8) 34 wr W.heap.size (fun _=>True) v (List.zipWith (mulB wb) (c.take k) (rows.take k)))/\Aside0 (BB W wr g)/\Aside0 (Fd wr g wb (fpoly wb) S)/\Aside0 ((rows.take k).all (evB wb)=true)) (fun _ iv _=>n - (intOf iv).toNat)
 case atStart=>exact ⟨0,Nat.zero_le _,rfl,⟨Kd.S_nil _ _ _ _ _⟩,⟨BB.refl _ _⟩,HF0,⟨rfl⟩⟩
 clear HF0 z1 z2;obtain ⟨w3,rfl⟩: ∃w3,w3=wr:=⟨_,rfl⟩;obtain ⟨k,hk,rfl,HO,HB,HF,HEV⟩:=hrel;by_cases hlt:k<n
 ·obtain ⟨x,hx⟩: ∃x,c[k]?=some x:=⟨_,Zf (by have:=HL1.out;omega)⟩;obtain ⟨b,hb⟩: ∃b,rows[k]?=some b:=⟨_,Zf (by have:=HL2.out;omega)⟩;obtain ⟨ad,A',c',rfl,hcb,hlb,hCb⟩:=b9z (Kd.F_now (F_bb (HL2.out.symm▸HR.out) HB.out)) k b hb;obtain ⟨cd,rfl,hcx⟩:=cuz (Kd.F_now (F_bb (HL1.out.symm▸HC.out) HB.out)) k x hx;have HCB:=Za hCb;have HI:=Za (HIN.out x (Zo hx));have HBL:=Za (HSZ.out b (Zo hb));have HZ:=Za (e2z (mulB wb) c rows k x b hx hb);have HEV1:=Za (show (rows.take (k+1)).all (evB wb)=((rows.take k).all (evB wb)&&evB wb b) by rw [List.take_add_one,hb];simp)
  have HALL:=Za (show evB wb b=false->rows.all (evB wb)=false from fun h=>by
   rw [List.all_eq_false]
   exact ⟨b,Zo hb,by rw [h];decide⟩)
  have HS3:=Za (show∀q,S q->q<w3.heap.size from fun q hq=>Zp (HS.out q hq) HB.out.size);have k1:(0:Int)<=(k:Int):=by omega
  have k2:(k:Int)<(n:Int):=by omega
  clear hx hb hlb hCb;by_cases hev:evB wb b=true
  ·have HMU:=Za (rMul.ok g wb x S A' c' b w3 HW.out HF.out HS3.out HCB.out HBL.out (by simpa [evB] using hev) HI.out);have HE2:=Za (show (rows.take (k+1)).all (evB wb)=true by rw [HEV1.out,HEV.out,hev];rfl);clear hev
   go_wp2_with fail
   refine HMU.out.mono ?_;rintro e w4 ⟨v4,rfl,q1,q2,q3⟩;obtain ⟨gcs,hgcs⟩:=Fd.cells HF.out;have hj:=S_joinK HO.out hgcs (by decide) q3 q1 HB.out.size;have HLZ:=Za (show (List.zipWith (mulB wb) (c.take k) (rows.take k)).length<=1000 by simp;omega);obtain ⟨va,vc,rfl⟩:=Kd.a7z q1;generalize List.zipWith (mulB wb) (c.take k) (rows.take k)=pre at HO hj HLZ HZ
   generalize (mulB wb x b).length=nm at *
   generalize mulB wb x b=R at hj HZ;have HS1:=Za hj.1;have HM1:=Za hj.2.1;have HOK:=Za hj.2.2;have HSW:=Za (show W.heap.size<=w4.heap.size from Zt HB.out.size q3.size);have HB4:=Za (HB.out.trans q3);have HF4:=Za q2;have HTY:=Za (Kd.bBz hj.1);clear q1 q2 q3 hj hgcs HMU HCB hcb hcx HO
   go_wp2_with ((with_reducible refine anz (b:= .append) (xs:= #[.tmp 43, .tmp 45]) rfl ?_);go_must (at_builtin;refine Kd.bPz (dM 5 .u8) (w0:=w4) W.heap.size rfl (.tmp 43) (.tmp 45) 24 34 (.slice none 0 0) 24 rfl Tryz.underlying24 kr_ rfl (by decide) (by decide) _ _ R [.slice va nm vc] (fun _=>True) (fun k'=>w3.heap.size<=k') rfl rfl HM1.out HOK.out (fun _ _=>trivial) HS1.out (Zw _ _) HSW.out ?aL ?_;(case aL=>have:=HLZ.out;omega));intro v2 w5 ho2 hb2 hg2 hat2;have HO5:=Za ho2;have HB5:=Za hb2;have HG5:=Za (show w4.grownBy w5 u8.ownBlock from hg2);clear ho2 hb2 hg2 hat2)
   go_roundw
   case rel=>exact ⟨k+1,by omega,by go_num,⟨by rw [HZ.out];exact HO5.out⟩,⟨HB4.out.then_below HB5.out⟩,⟨HF4.out.grown HG5.out HTY.out (by decide) (by decide)⟩,HE2⟩
   case measure=>simp [intOf];omega
  ·have hev':evB wb b=false:=by simpa using hev
   have HMU:=Za (rMul.badw g wb (fpoly wb) x S A' c' b w3 HW.out HF.out HBL.out (by simpa [evB] using hev'))
   have HRES:=Za (show r1= [] /\r2=1 by
    have h:=HH.out;unfold dotB at h;rw [Yb (by rw [HALL.out hev'];decide)] at h;simp only [Zx,Zy] at h
    exact ⟨h.1.symm,h.2.symm⟩)
   clear hev hev'
   go_wp2_with fail
   refine HMU.out.mono ?_;rintro e w4 ⟨rfl,m4,rfl⟩;go_wp2;go_ret2;refine ⟨.slice none 0 0,?_,?_,HF.out.drewN m4,HB.out.drewN m4⟩
   ·rw [HRES.out.2];rfl
   ·rw [HRES.out.1];exact Kd.R_nil _ _ _ _ _
 ·obtain rfl:k=n:=by omega
  have e1:c.take k=c:=List.take_of_length_le (by rw [HL1.out];exact Zv _);have e2:rows.take k=rows:=List.take_of_length_le (by rw [HL2.out];exact Zv _);rw [e1,e2] at HO;rw [e2] at HEV;have h:=HH.out;unfold dotB at h;rw [Ya HEV.out] at h;have HSUM:=Za h;generalize List.zipWith (mulB wb) c rows=pr at HO HSUM;obtain ⟨PA,pc,rfl,hpl,hpc⟩:=Kd.S_reads HO.out;have HPS:=Za (aKz.calls K PA pc pr r1 r2 w3 hpc hpl HSUM.out);clear h e1 e2 hpl hpc
  generalize pr.length=np at *
  go_wp2_with fail
  refine HPS.out.mono ?_;rintro e w4 ⟨v,rfl,s1,s2⟩;have R1:=Za (Kd.bGz s1 HB.out.size);have R2:=Za (HF.out.below s2);have R3:=Za (HB.out.trans (BB.of_below s2 g));clear s1 s2;go_wp2;go_ret2;exact ⟨_,rfl,R1.out,R2.out,R3.out⟩
def aFz.l (K:Nat) (wb:Int) (data:List (List Int)):List (List Int)->List (List Int)->Option (List (List Int)×Int)
 | [],acc=>some (acc,0)
 |row::rs,acc=>(dotB K wb row data).bind fun t=>if t.2=0 then aFz.l K wb data rs (acc++ [t.1]) else some ([],1)
def aFz.small (l:List (List Int)):Bool:=decide (l.length<=1000)&&l.all (fun r=>decide (r.length<=1000000))
def aFz.f (k:Nat) (a0_0 a0_1 a0_2:Int) (l1:List (List Int)):Option (List (List Int)×Int):=
 (aGz.f a0_0 a0_1 a0_2).bind fun b=>if b=true then (if (l1.length:Int)=a0_1 then (if aFz.small l1=true then aFz.l k (pbits a0_0) l1 (parM a0_0 a0_1.toNat a0_2.toNat) [] else none) else some ([],1)) else some ([],1)
theorem C_F {α:Type} {d:Kd α} (hd:Kd.Heap d) {W:World} {A:Option Addr} {n:Nat} {xs:List α} (h:d.C W A n xs):Kd.F d W (fun k=>k<W.heap.size) A n xs:=fun W' hW=>hd.C (fun k hk=>hW k hk hk) h
theorem codec_Parity1.calls (g bf bd : Nat) (wb : Int) (S : Nat -> Prop) (C A : Option Addr) (cc ca K : Nat) (c : List Int) (rows : List (List Int)) (r1 : List Int) (r2 : Int) (W : World) (hw : wb = 8 \/ wb = 16) (hF : Fd W g wb (fpoly wb) S) (hS : ∀ k, S k -> k < W.heap.size)
  (hbf:W.heap[bf]?=some (.cells #[.pointer (some ⟨g,0,none⟩)] 72 (0,0))) (hbd:W.heap[bd]?=some (.cells #[.slice A rows.length ca] 24 (0,0)))
  (hc:Kd.F (Kd.int .i64) W (NotG g) C c.length c) (hr:Kd.F (dM 5 .u8) W (NotG g) A rows.length rows) (hin: ∀x,x∈c->inF wb x=true) (hlen:c.length=rows.length) (h0:0<rows.length) (hsz: ∀r,r∈rows->r.length<=1000000) (hn:rows.length<=1000) (h:dotB K wb c rows=some (r1,r2)):
  Calls Tryz.prog 46 #[.slice C c.length cc, .pointer (some ⟨bf,0,none⟩), .pointer (some ⟨bd,0,none⟩)] W fun e w'=> ∃v,e= .returned (.tuple #[v, .int .i64 r2])/\(Kd.int .u8).R 5 w' W.heap.size (fun _=>True) v r1/\Fd w' g wb (fpoly wb) S/\BB W w' g:=by
 have HD:=Za (rDot.calls g wb S C A cc ca K c rows r1 r2 W hw hF hS hc hr hin hlen h0 hsz hn h);have c1:W.cell? ⟨bf,0,none⟩=some (.pointer (some ⟨g,0,none⟩)):=(aez hbf 0).trans rfl;have c2:W.cell? ⟨bd,0,none⟩=some (.slice A rows.length ca):=(aez hbd 0).trans rfl;generalize rows.length=n at HD c2;generalize c.length=m at HD|-;clear hw hF hS hbf hbd hc hr hin hlen h0 hsz hn h;go_enter Tryz.func46,Tryz.ntmps46
 go_wp2_with fail
 refine HD.out.mono ?_;rintro e w1 ⟨v,rfl,q1,q2,q3⟩;have Q1:=Za q1;have Q2:=Za q2;have Q3:=Za q3;clear q1 q2 q3;go_wp2;go_ret2;exact ⟨_,rfl,Q1.out,Q2.out,Q3.out⟩
theorem aFz.nomay (p k m : Int) (A : Option Addr) (c : Nat) (l : List (List Int)) (W : World) (h : aGz.f p k m = some false) :
  Calls Tryz.prog 19 #[.agg #[.int .i64 p, .int .i64 k, .int .i64 m], .slice A l.length c] W fun e w'=>e= .returned (.tuple #[.slice none 0 0, .int .i64 1])/\Below W.heap.size W w':=by
 have HP:=Za (fun w=>dgz.no p k m w h);have hu:=Tryz.underlying23;generalize l.length=n;clear h;go_enter Tryz.func19,Tryz.ntmps19
 go_wp2_with fail
 refine (HP.out _).mono ?_;rintro e w1 ⟨rfl,hB⟩;have HB:=Za (show Below W.heap.size W w1 from (aoz (aoz (Zw _ _) _) _).trans (hB.mono (by simp;omega)));clear hB;go_wp2;go_ret2;exact ⟨rfl,HB.out⟩
theorem aFz.nolen (p k m : Int) (A : Option Addr) (c : Nat) (l : List (List Int)) (W : World) (h : aGz.f p k m = some true) (hl : (l.length : Int) ≠ k) :
  Calls Tryz.prog 19 #[.agg #[.int .i64 p, .int .i64 k, .int .i64 m], .slice A l.length c] W fun e w'=>e= .returned (.tuple #[.slice none 0 0, .int .i64 1])/\Below W.heap.size W w':=by
 have HP:=Za (fun w=>dgz.ok p k m w h);have hu:=Tryz.underlying23;generalize l.length=n at hl|-;generalize parM p k.toNat m.toNat=M at HP;have hne:((n:Int) !=k)=true:=by simpa using hl
 have hb1:=heap_alloc_new W (.cells #[.int .i64 p, .int .i64 k, .int .i64 m] 23);have hb2:=heap_alloc_new (W.alloc (.cells #[.int .i64 p, .int .i64 k, .int .i64 m] 23)) (.cells #[.slice A n c] 24);have hb1':((W.alloc (.cells #[.int .i64 p, .int .i64 k, .int .i64 m] 23)).alloc (.cells #[.slice A n c] 24)).heap[W.heap.size]?=some (.cells #[.int .i64 p, .int .i64 k, .int .i64 m] 23 (0,0)):=aLz hb1 (aoz (Zw _ _) _);have HX1:=Za hb1';have HX2:=Za hb2;have HB:=Za (show Below W.heap.size W ((W.alloc (.cells #[.int .i64 p, .int .i64 k, .int .i64 m] 23)).alloc (.cells #[.slice A n c] 24)) from aoz (aoz (Zw _ _) _) _);clear h hl hb1 hb2 hb1';go_enter Tryz.func19,Tryz.ntmps19
 go_wp2_with fail
 generalize (W.alloc (.cells #[.int .i64 p, .int .i64 k, .int .i64 m] 23)).alloc (.cells #[.slice A n c] 24)=w1 at HX1 HX2 HB|-;refine (HP.out w1).mono ?_;rintro e w2 ⟨B,bc,rfl, -, -,hB⟩;have HB2:=Za (HB.out.trans (hB.mono HB.out.size));have c1:w2.cell? ⟨W.heap.size,1,none⟩=some (.int .i64 k):=(aez (aLz HX1.out hB) 1).trans rfl
 have c2:w2.cell? ⟨W.heap.size+1,0,none⟩=some (.slice A n c):=by
  have:=(aez (aLz HX2.out hB) 0);simp at this;exact this
 clear hB;go_wp2;go_ret2;exact ⟨rfl,HB2.out⟩
theorem aFz.go (K : Nat) (p k m : Int) (A : Option Addr) (c : Nat) (l : List (List Int)) (r1 : List (List Int)) (r2 : Int) (W : World) (h : aGz.f p k m = some true) (hl : (l.length : Int) = k) (hr : Kd.C (dM 5 .u8) W A l.length l) (hsm : aFz.small l = true)
  (hL:aFz.l K (pbits p) l (parM p k.toNat m.toNat) [] =some (r1,r2)):
  Calls Tryz.prog 19 #[.agg #[.int .i64 p, .int .i64 k, .int .i64 m], .slice A l.length c] W fun e w'=> ∃v,e= .returned (.tuple #[v, .int .i64 r2])/\Kd.S (dM 5 .u8) 34 w' W.heap.size (fun _=>True) v r1/\Below W.heap.size W w':=by
 obtain ⟨p1,p2,k1,k2,m1,m2⟩:=cpz h;have HP:=Za (fun w=>dgz.ok p k m w h);have HFD:=Za (eZz.calls p ⟨p1,p2⟩);have HPB:=Za (enz p);have hgd:=d3z p k.toNat m.toNat (by omega) (by omega) (by omega) (by omega)
 have HSM:=Za (show l.length<=1000/\ ∀r,r∈l->r.length<=1000000 by
  simp only [aFz.small,Bool.and_eq_true,decide_eq_true_eq,List.all_eq_true] at hsm
  exact hsm)
 have hu:=Tryz.underlying23;obtain ⟨n,hn⟩: ∃n,l.length=n:=⟨_,rfl⟩;have HLN:=Za hn;obtain rfl:k=(n:Int):=by omega
 simp only [Zu] at HP hgd hL;obtain ⟨mm,hmm⟩: ∃mm,m.toNat=mm:=⟨_,rfl⟩;rw [hmm] at HP hgd hL;have mm4:mm<=4:=by omega
 have HGD:=Za hgd;have HL:=Za hL;have HR:=Za (C_F (Kd.heap_slice _ (Kd.heap_int _)) hr);rw [hn] at HR|-;generalize parM p n mm=M at HP HGD HL;generalize pbits p=wb at HFD HPB HL HGD;have hself:((n:Int) !=(n:Int))=false:=by simp
 have n1:1<=n:=by omega
 have n2:n<=8:=by omega
 have HW:=Za (show W.heap.size=W.heap.size from rfl);have hb1:=heap_alloc_new W (.cells #[.int .i64 p, .int .i64 (n:Int), .int .i64 m] 23);have hb2:=heap_alloc_new (W.alloc (.cells #[.int .i64 p, .int .i64 (n:Int), .int .i64 m] 23)) (.cells #[.slice A n c] 24);have hb1':((W.alloc (.cells #[.int .i64 p, .int .i64 (n:Int), .int .i64 m] 23)).alloc (.cells #[.slice A n c] 24)).heap[W.heap.size]?=some (.cells #[.int .i64 p, .int .i64 (n:Int), .int .i64 m] 23 (0,0)):=aLz hb1 (aoz (Zw _ _) _);have HX1:=Za hb1';have HX2:=Za (show ((W.alloc (.cells #[.int .i64 p, .int .i64 (n:Int), .int .i64 m] 23)).alloc (.cells #[.slice A n c] 24)).heap[W.heap.size+1]?=some (.cells #[.slice A n c] 24 (0,0)) by simpa using hb2);have HB:=Za (show Below W.heap.size W ((W.alloc (.cells #[.int .i64 p, .int .i64 (n:Int), .int .i64 m] 23)).alloc (.cells #[.slice A n c] 24)) from aoz (aoz (Zw _ _) _) _);clear h hl hb1 hb2 hb1' hgd hL hr hn p1 p2 k1 k2 hmm hsm
 go_enter Tryz.func19,Tryz.ntmps19
 go_wp2_with fail
 generalize (W.alloc (.cells #[.int .i64 p, .int .i64 (n:Int), .int .i64 m] 23)).alloc (.cells #[.slice A n c] 24)=w1 at HX1 HX2 HB|-;refine (HP.out w1).mono ?_;rintro e w2 ⟨B,bc,rfl, -,hC2,hB⟩;have HB2:=Za (HB.out.trans (hB.mono HB.out.size));have HY1:=Za (aLz HX1.out hB);have HY2:=Za (aLz HX2.out hB);have HM2:=Za (Kd.cHz (Kd.F_bound hC2) (fun q hq=>hq.2));have c0:w2.cell? ⟨W.heap.size,0,none⟩=some (.int .i64 p):=(aez HY1.out 0).trans rfl;have c1:w2.cell? ⟨W.heap.size,1,none⟩=some (.int .i64 (n:Int)):=(aez HY1.out 1).trans rfl;have c2:w2.cell? ⟨W.heap.size+1,0,none⟩=some (.slice A n c):=(aez HY2.out 0).trans rfl;have HML:=Za (show M.length=mm from HGD.out.2);clear hB hC2 HP HX1 HX2 HB;have hmf: ∀(fn:Fn) (first cap:Array Value) (w:World),(Instr.makeFunc fn first cap).run Tryz.prog w= .ok (.func fn first cap) w:=fun _ _ _ _=>rfl
 go_wp2_with fail
 refine (HFD.out w2).mono ?_;rintro e w3 ⟨g,rfl,q1,q2,q3⟩;have HB3:=Za (HB2.out.trans (q3.mono HB2.out.size));have HZ2:=Za (aLz HY2.out q3);have HFR:=Za (q1.fd (fun _=>False) (fun h=>h));have HM3:=Za (show Kd.F (dM 3 .i64) w3 (NotG g) B mm M from Kd.cHz (Kd.cSz HM2.out q3) (fun q hq=>by show q≠g;omega));have HD3:=Za (show Kd.F (dM 5 .u8) w3 (NotG g) A n l from Kd.cHz (Kd.F_step HR.out (fun q hq _=>HB3.out.block q hq)) (fun q hq=>by show q≠g;have:=HB2.out.size;omega));have HG3:=Za (show W.heap.size<=g from Zt HB2.out.size q2);have HGN:=Za (show W.heap.size+1≠g by have:=a4z HY2.out;omega);clear q1 q2 q3 c0 c1 c2 HM2 HR HY1 HY2 HB2 HFD;go_wp2;obtain ⟨bf,hbf⟩: ∃bf,bf=w3.heap.size:=⟨_,rfl⟩;obtain ⟨bd,hbd⟩: ∃bd,bd=W.heap.size+1:=⟨_,rfl⟩;have HT:=aoz (Zw w3.heap.size w3) (.cells #[.pointer (some ⟨g,0,none⟩)] 72);have HBF:=Za (show (w3.alloc (.cells #[.pointer (some ⟨g,0,none⟩)] 72)).heap[bf]?=some (.cells #[.pointer (some ⟨g,0,none⟩)] 72 (0,0)) by rw [hbf];exact heap_alloc_new _ _)
 have HBD:=Za (show (w3.alloc (.cells #[.pointer (some ⟨g,0,none⟩)] 72)).heap[bd]?=some (.cells #[.slice A n c] 24 (0,0)) by rw [hbd];exact aLz HZ2.out HT);have HB5:=Za (aoz HB3.out (.cells #[.pointer (some ⟨g,0,none⟩)] 72));have HF5:=Za (HFR.out.alloc (.cells #[.pointer (some ⟨g,0,none⟩)] 72));have HM5:=Za (Kd.F_alloc HM3.out (.cells #[.pointer (some ⟨g,0,none⟩)] 72));have HD5:=Za (Kd.F_alloc HD3.out (.cells #[.pointer (some ⟨g,0,none⟩)] 72));have HN1:=Za (show bf≠g by have:=HFR.out.lt;omega);have HN2:=Za (show bd≠g by rw [hbd];exact HGN.out);rw [<-hbf, <-hbd];clear HT hbf hbd HB3 HZ2 HFR HM3 HD3 HGN;generalize w3.alloc (.cells #[.pointer (some ⟨g,0,none⟩)] 72)=w5 at HBF HBD HB5 HF5 HM5 HD5|-
 go_loopw [10,35] (fun v iv wr=> ∃(k:Nat) (acc:List (List Int)),k<=mm/\iv= .int .i64 (k:Int)/\Aside0 (Kd.S (dM 5 .u8) 34 wr w5.heap.size (fun _=>True) v acc)/\Aside0 (BB w5 wr g)/\Aside0 (Fd wr g wb (fpoly wb) (fun _=>False))/\Aside0 (aFz.l K wb l (M.drop k) acc=some (r1,r2))/\acc.length<=k) (fun _ iv _=>mm - (intOf iv).toNat)
 case atStart=>exact ⟨0, [],Nat.zero_le _,rfl,⟨Kd.S_nil _ _ _ _ _⟩,⟨BB.refl _ _⟩,HF5,HL,Nat.zero_le _⟩
 clear HF5 HL;obtain ⟨w6,rfl⟩: ∃w6,w6=wr:=⟨_,rfl⟩;obtain ⟨k,acc,hk,rfl,HO,HB,HF,HL,hacc⟩:=hrel;by_cases hlt:k<mm
 ·obtain ⟨row,hrow⟩: ∃x,M[k]?=some x:=⟨_,Zf (by have:=HML.out;omega)⟩
  have hdr:M.drop k=row::M.drop (k+1):=by
   obtain ⟨h1,h2⟩:=Zk hrow;rw [List.drop_eq_getElem_cons h1,h2]
  have hl:=HL.out;rw [hdr,aFz.l] at hl;obtain ⟨⟨t1,t2⟩,hd,hl2⟩:=Option.bind_eq_some_iff.1 hl;have hgr:=HGD.out.1 row (Zo hrow);have HRL:=Za hgr.1;have hFM:=F_bb HM5.out HB.out;rw [<-HML.out] at hFM;obtain ⟨ad,A',c',rfl,hcr,hlr, -⟩:=b9z (Kd.F_now hFM) k row hrow;obtain ⟨A2,c2,hcr2,hlr2,hFr⟩:=row_atF hFM k row hrow
  obtain ⟨rfl,rfl⟩:A'=A2/\c'=c2:=by
   rw [hcr] at hcr2;injection hcr2 with e
   injection e with e1 e2 e3
   exact ⟨e1,e3⟩
  have HDC:=Za (codec_Parity1.calls g bf bd wb (fun _=>False) A' A c' c K row l t1 t2 w6 HPB.out HF.out (fun _ h=>h.elim) ((HB.out.block bf (a4z HBF.out) HN1.out).trans HBF.out) (by rw [HLN.out];exact (HB.out.block bd (a4z HBD.out) HN2.out).trans HBD.out) hFr (by rw [HLN.out];exact F_bb HD5.out HB.out) (fun x hx=>by
   have:=hgr.2 x hx
   simp [inF,this]) (by rw [HRL.out,HLN.out]) (by rw [HLN.out];omega) HSM.out.2 HSM.out.1 hd)
  have HL2:=Za hl2;rw [HRL.out] at HDC hcr;have k1:(0:Int)<=(k:Int):=by omega
  have k2:(k:Int)<(mm:Int):=by omega
  clear hrow hdr hl hl2 hd hgr hFM hlr hcr2 hlr2 hFr
  go_wp2_with fail
  refine HDC.out.mono ?_;rintro e w7 ⟨v7,rfl,q1,q2,q3⟩;by_cases ht2:t2=0
  ·subst ht2;have HL3:=HL2.out;rw [Ya rfl] at HL3;have HL4:=Za HL3;obtain ⟨gcs,hgcs⟩:=Fd.cells HF.out;have hj:=S_joinK HO.out hgcs (by decide) q3 q1 HB.out.size;obtain ⟨va,vc,rfl⟩:=Kd.a7z q1
   generalize t1.length=nm at *
   have HS1:=Za hj.1;have HM1:=Za hj.2.1;have HOK:=Za hj.2.2;have HSW:=Za (show w5.heap.size<=w7.heap.size from Zt HB.out.size q3.size);have HB7:=Za (HB.out.trans q3);have HF7:=Za q2;have HTY:=Za (Kd.bBz hj.1);have hal:acc.length<=100:=by omega
   clear q1 q2 q3 hj hgcs HDC hcr HO HL3 HL2;have HAL:=Za hal;have HAC:=Za hacc;clear hal hacc
   go_wp2_with ((with_reducible refine anz (b:= .append) (xs:= #[.tmp 47, .tmp 49]) rfl ?_);go_must (at_builtin;refine Kd.bPz (dM 5 .u8) (w0:=w7) w5.heap.size rfl (.tmp 47) (.tmp 49) 24 34 (.slice none 0 0) 24 rfl Tryz.underlying24 kr_ rfl (by decide) (by decide) _ _ t1 [.slice va nm vc] (fun _=>True) (fun k'=>w6.heap.size<=k') rfl rfl HM1.out HOK.out (fun _ _=>trivial) HS1.out (Zw _ _) HSW.out ?aL ?_;(case aL=>have:=HAL.out;omega));intro v2 w8 ho2 hb2 hg2 hat2;have HO8:=Za ho2;have HB8:=Za hb2;have HG8:=Za (show w7.grownBy w8 u10.ownBlock from hg2);clear ho2 hb2 hg2 hat2)
   go_roundw
   case rel=>exact ⟨k+1,acc++ [t1],by omega,by go_num,HO8,⟨HB7.out.then_below HB8.out⟩,⟨HF7.out.grown HG8.out HTY.out (by decide) (by decide)⟩,HL4,by have:=HAC.out;simp;omega⟩
   case measure=>simp [intOf];omega
  ·have hb2:(t2 !=0)=true:=by simpa using ht2
   have HRES:=Za (show r1= [] /\r2=1 by
    have h:=HL2.out;rw [Yb ht2] at h;simp only [Zx,Zy] at h
    exact ⟨h.1.symm,h.2.symm⟩)
   have HB7:=Za (HB.out.trans q3);clear q1 q2 q3 ht2 HDC hcr;go_wp2;go_ret2;refine ⟨.slice none 0 0,?_,?_,HB7.out.below HB5.out HG3.out⟩
   ·rw [HRES.out.2];rfl
   ·rw [HRES.out.1];exact Kd.S_nil _ _ _ _ _
 ·obtain rfl:k=mm:=by omega
  have h:=HL.out;rw [List.drop_of_length_le (by rw [HML.out];exact Zv _),aFz.l] at h;simp only [Zx,Zy] at h;obtain ⟨rfl,rfl⟩:=h;go_wp2;go_ret2;exact ⟨_,rfl,Kd.c1z HO.out HB5.out.size,HB.out.below HB5.out HG3.out⟩
theorem aFz.calls (k:Nat) (a0_0:Int) (a0_1:Int) (a0_2:Int) (A1:Option Addr) (c1:Nat) (l1:List (List Int)) (r1:List (List Int)) (r2:Int) (w:World) (hr1:Kd.C (Kd.slice 5 (Kd.int .u8)) w A1 l1.length l1) (hc1:l1.length<=c1) (h:aFz.f k a0_0 a0_1 a0_2 l1=some (r1,r2)):
 Calls Tryz.prog 19 #[.agg #[.int .i64 a0_0, .int .i64 a0_1, .int .i64 a0_2], .slice A1 l1.length c1] w fun e w'=> ∃v0_:Value,e= .returned (.tuple #[v0_, .int .i64 r2])/\Kd.S (Kd.slice 5 (Kd.int .u8)) 34 w' w.heap.size (fun _=>True) v0_ r1/\Below w.heap.size w w':=by
 unfold aFz.f at h;obtain ⟨b,hb⟩:=eqz a0_0 a0_1 a0_2;rw [hb] at h;simp only [Zl] at h
 have bad: ∀(hh:some (([] :List (List Int)),(1:Int))=some (r1,r2)) (hc:Calls Tryz.prog 19 #[.agg #[.int .i64 a0_0, .int .i64 a0_1, .int .i64 a0_2], .slice A1 l1.length c1] w fun e w'=>e= .returned (.tuple #[.slice none 0 0, .int .i64 1])/\Below w.heap.size w w'),Calls Tryz.prog 19 #[.agg #[.int .i64 a0_0, .int .i64 a0_1, .int .i64 a0_2], .slice A1 l1.length c1] w fun e w'=> ∃v0_:Value,e= .returned (.tuple #[v0_, .int .i64 r2])/\Kd.S (Kd.slice 5 (Kd.int .u8)) 34 w' w.heap.size (fun _=>True) v0_ r1/\Below w.heap.size w w':=by
  intro hh hc;simp only [Zx,Zy] at hh;obtain ⟨rfl,rfl⟩:=hh;refine hc.mono ?_;rintro e w' ⟨rfl,hB⟩;exact ⟨_,rfl,Kd.S_nil _ _ _ _ _,hB⟩
 cases b with
 |false=>exact bad (by simpa using h) (aFz.nomay a0_0 a0_1 a0_2 A1 c1 l1 w hb)
 |true=>
  rw [Ya rfl] at h;by_cases hl:(l1.length:Int)=a0_1
  ·rw [Ya hl] at h;by_cases hs:aFz.small l1=true
   ·rw [Ya hs] at h;exact aFz.go k a0_0 a0_1 a0_2 A1 c1 l1 r1 r2 w hb hl hr1 hs h
   ·rw [Yb hs] at h;cases h
  ·rw [Yb hl] at h;exact bad h (aFz.nolen a0_0 a0_1 a0_2 A1 c1 l1 w hb hl)
def cyz.f (a0_0:Int) (a0_1:Int) (a0_2:Int):Option (Int×Int):=(blz.f a0_0).bind fun bt112=>(if bt112.2.2.2.1=106 then (some (8,0)) else (if bt112.2.2.2.1=105 then (some (16,0)) else (if bt112.2.2.2.1=98 then (some (1,4)) else (some (1,0)))))
theorem cyz.calls (a0_0:Int) (a0_1:Int) (a0_2:Int) (r1:Int) (r2:Int) (w:World) (h:cyz.f a0_0 a0_1 a0_2=some (r1,r2)):
 Calls Tryz.prog 89 #[.agg #[.int .i64 a0_0, .int .i64 a0_1, .int .i64 a0_2]] w fun e w'=>e= .returned (.tuple #[.int .i64 r1, .int .i64 r2])/\Below w.heap.size w w':=by
 have hu23:=Tryz.underlying23;have hu109:=Tryz.underlying109;have HB:=Za (Zw w.heap.size w);have H:=h;clear h;unfold cyz.f at H;obtain ⟨⟨t112,t113,t114,t115,t116,t117⟩,A2,H⟩:=ob_ H
 (try dsimp only at H)
 have HH:=Za H;clear H;go_enter Tryz.func89,Tryz.ntmps89
 go_wp2_with (first|((with_reducible refine aUz (N:=1) rfl ?_);refine bx_ 1 #[.int .i64 a0_0, .int .i64 a0_1, .int .i64 a0_2] 23 ?_;intro gb111 hg w4 hbox hb;have n_:=Zb (hs_ HB hb) (Zb (Za (hbox)) (Zb (ag_ HB gb111) (ag_ HB gb111)));clear HB;obtain ⟨HB,BK111,GW111,GE111⟩:=n_;clear hb hbox hg;obtain ⟨hcz5_0,hfz5_0,hcz5_1,hfz5_1,hcz5_2,hfz5_2⟩:=bc3_ BK111.out)|((with_reducible refine abz (f:=75) rfl ?_);refine gl_ (some 9) Tryz.func75 #[.int .i64 a0_0] ?_;(with_reducible refine (blz.calls a0_0 t112 t113 t114 t115 t116 t117 _ A2.out).mono ?_);rintro e w6 ⟨rfl,hb⟩;refine ⟨_,rfl,?_⟩;have n_:=Zb (bb_ BK111 hb) (hs_ HB hb);clear BK111 HB;obtain ⟨BK111,HB⟩:=n_;(try clear hb))|((with_reducible refine aUz (N:=4) rfl ?_);refine b4z ?hg (N:=4) ?hd (cs:= #[.string (⟨#[]⟩:ByteArray), .int .i64 0, .int .u32 0, .int .u8 0, .int .i64 0]) (t:=109) ?hr ?_;(case hd=>rfl);(case hg=>rfl);(case hr=>first|(go_simp;done)|(go_simp;rfl));intro gb118 hg w7 hbox hb;have n_:=Zb (bb_ BK111 hb) (Zb (hs_ HB hb) (Zb (Za (hbox)) (Zb (ag_ HB gb118) (Zb (ag_ HB gb118) (Zb (n1_ BK111 gb118) (n2_ BK111 gb118))))));clear BK111 HB;obtain ⟨BK111,HB,BK118,GW118,GE118,NB111_118,NB118_111⟩:=n_;clear hb hbox hg;have hnb8:=NB118_111.out;have hnc8:=NB111_118.out;obtain ⟨hcz9_0,hfz9_0,hcz9_1,hfz9_1,hcz9_2,hfz9_2,hcz9_3,hfz9_3,hcz9_4,hfz9_4⟩:=bc5_ BK118.out))
 all_goals
  go_ret2;refine ⟨?_,bl_⟩;have H:=HH.out
  simp_all
def a1z.j0:Nat->Int->Bool->Int->Int->Int->Option (Int×Int)
 |0,_,_,_,_,_=>none
 |k+1,x1,x9,x112000,x112001,x112002=>if x9=true then (some (0,1)) else (if x1>4096 then (some (0,11)) else ((cyz.f x112000 x112001 x112002).bind fun bt113=>(if (wrap64 (bt113.1*x112001))=0 then (none) else (some (wrap64 (bt113.1*(mx (wrap64 (Int.tdiv (wrap64 ((wrap64 ((wrap64 (x1+bt113.2))+(wrap64 (bt113.1*x112001)))) - 1)) (wrap64 (bt113.1*x112001)))) 1)),0)))))
def a1z.f (k:Nat) (a0_0:Int) (a0_1:Int) (a0_2:Int) (a1:Int):Option (Int×Int):=(aGz.f a0_0 a0_1 a0_2).bind fun t112=>(if t112=true then (a1z.j0 k a1 (decide (a1<0)) a0_0 a0_1 a0_2) else (a1z.j0 k a1 true a0_0 a0_1 a0_2))
theorem a1z.aWz: ∀k,(∀y0 y1 y2 y3 y4,LeO (a1z.j0 k y0 y1 y2 y3 y4) (a1z.j0 (k+1) y0 y1 y2 y3 y4))
 |0=>fun _ _ _ _ _ r h=>by simp [a1z.j0] at h
 |k+1=>by
  have ih0:=a1z.aWz k
  ·intro y0 y1 y2 y3 y4;unfold a1z.j0
   repeat' with_reducible first|apply ih0|apply LeO.refl|apply LeO.none|apply LeO.ite|refine LeO.bind ?_ fun _=>?_
theorem a1z.mono: ∀a0 a1 a2 a3 k,LeO (a1z.f k a0 a1 a2 a3) (a1z.f (k+1) a0 a1 a2 a3):=by
 intro a0 a1 a2 a3 k;have ih0:=a1z.aWz k;unfold a1z.f
 repeat' with_reducible first|apply ih0|apply LeO.refl|apply LeO.none|apply LeO.ite|refine LeO.bind ?_ fun _=>?_
theorem a1z.calls (k : Nat) (a0_0 : Int) (a0_1 : Int) (a0_2 : Int) (a1 : Int) (r1 : Int) (r2 : Int) (w : World) (h : a1z.f k a0_0 a0_1 a0_2 a1 = some (r1, r2)) :
  Calls Tryz.prog 88 #[.agg #[.int .i64 a0_0, .int .i64 a0_1, .int .i64 a0_2], .int .i64 a1] w fun e w'=>e= .returned (.tuple #[.int .i64 r1, .int .i64 r2])/\Below w.heap.size w w':=by
 have hu23:=Tryz.underlying23;have HB:=Za (Zw w.heap.size w);have H:=h;clear h;unfold a1z.f at H;have HC3:=Za H;clear H;go_enter Tryz.func88,Tryz.ntmps88
 go_upto_region 1 with (first|((with_reducible refine aUz (N:=2) rfl ?_);refine bx_ 2 #[.int .i64 a0_0, .int .i64 a0_1, .int .i64 a0_2] 23 ?_;intro gb111 hg w4 hbox hb;have n_:=Zb (hs_ HB hb) (Zb (Za (hbox)) (Zb (ag_ HB gb111) (ag_ HB gb111)));clear HB;obtain ⟨HB,BK111,GW111,GE111⟩:=n_;clear hb hbox hg))
 (try simp only [Act.put,Zg,Zh,Zi])
 go_cut [9] (fun v9 wc=> ∃(kq:Nat) (x9_2:Bool),v9= .bool x9_2/\Aside0 (a1z.j0 kq a1 x9_2 a0_0 a0_1 a0_2=some (r1,r2))/\Aside0 (kq<=k)/\Aside0 (wc.heap[gb111]?=some (.cells #[.int .i64 a0_0, .int .i64 a0_1, .int .i64 a0_2] 23 (0,0)))/\Aside0 (Below w.heap.size w wc))
 case first=>
  have H:=HC3.out;clear HC3;obtain ⟨t112,A5,H⟩:=ob_ H
  (try dsimp only at H)
  by_cases c6:t112=true
  ·subst c6;rw [Ya rfl] at H;have H':=Za H;clear H;obtain ⟨hcz7_0,hfz7_0,hcz7_1,hfz7_1,hcz7_2,hfz7_2⟩:=bc3_ BK111.out
   go_wp2_with (first|((with_reducible refine abz (f:=41) rfl ?_);refine gl_ (some 11) Tryz.func41 #[.agg #[.int .i64 a0_0, .int .i64 a0_1, .int .i64 a0_2]] ?_;(with_reducible refine (aGz.calls a0_0 a0_1 a0_2 true _ A5.out).mono ?_);rintro e w8 ⟨rfl,hb⟩;refine ⟨_,rfl,?_⟩;have n_:=Zb (bb_ BK111 hb) (hs_ HB hb);clear BK111 HB;obtain ⟨BK111,HB⟩:=n_;(try clear hb)))
   go_meet
   case rel=>exact ⟨_,(decide (a1<0)),sd_,H',⟨by first|omega|exact Zv _⟩,⟨bk_⟩,⟨bl_⟩⟩
  ·replace c6:=Zr c6;subst c6;rw [Yb (show¬(false=true) by decide)] at H;have H':=Za H;clear H;obtain ⟨hcz9_0,hfz9_0,hcz9_1,hfz9_1,hcz9_2,hfz9_2⟩:=bc3_ BK111.out
   go_wp2_with (first|((with_reducible refine abz (f:=41) rfl ?_);refine gl_ (some 11) Tryz.func41 #[.agg #[.int .i64 a0_0, .int .i64 a0_1, .int .i64 a0_2]] ?_;(with_reducible refine (aGz.calls a0_0 a0_1 a0_2 false _ A5.out).mono ?_);rintro e w10 ⟨rfl,hb⟩;refine ⟨_,rfl,?_⟩;have n_:=Zb (bb_ BK111 hb) (hs_ HB hb);clear BK111 HB;obtain ⟨BK111,HB⟩:=n_;(try clear hb)))
   go_meet
   case rel=>exact ⟨_,(true),sd_,H',⟨by first|omega|exact Zv _⟩,⟨bk_⟩,⟨bl_⟩⟩
 case rest=>
  clear HC3
  try clear p2
  try clear c4
  try clear c6
  try clear c8
  try clear hcz7_0
  try clear hcz7_1
  try clear hcz7_2
  try clear hcz9_0
  try clear hcz9_1
  try clear hcz9_2
  try clear hfz7_0
  try clear hfz7_1
  try clear hfz7_2
  try clear hfz9_0
  try clear hfz9_1
  try clear hfz9_2
  obtain ⟨kq,x9_2,rfl,HA,HJ2,BK111,HB⟩:=hcut;rcases kq with _|kj2
  ·exact Yf HA.out (by simp [a1z.j0])
  have H:=HA.out;clear HA;simp only [a1z.j0] at H;by_cases c11:x9_2=true
  ·subst c11;rw [Ya rfl] at H;simp only [Zx,Zy] at H;obtain ⟨rfl,rfl⟩:=H;go_wp2;go_ret2;exact ⟨er_,bl_⟩
  ·replace c11:=Zr c11;subst c11;rw [Yb (show¬(false=true) by decide)] at H;by_cases c12:a1>4096
   ·rw [Ya c12] at H;have c12b0:decide (4096<a1)=true:=Zd c12;clear c12;simp only [Zx,Zy] at H;obtain ⟨rfl,rfl⟩:=H;go_wp2;go_ret2;exact ⟨er_,bl_⟩
   ·rw [Yb c12] at H;have c12b0:decide (4096<a1)=false:=Ze c12;clear c12;obtain ⟨⟨t113,t114⟩,A13,H⟩:=ob_ H
    (try dsimp only at H)
    by_cases c14:(wrap64 (t113*a0_1))=0
    ·rw [Ya c14] at H;exact Yf H (by simp)
    ·rw [Yb c14] at H;have c14b0:((wrap64 (t113*a0_1))==0)=false:=Zq c14;have c14b1:((wrap64 (t113*a0_1)) !=0)=true:=Yd c14;obtain ⟨ji15,hji15⟩: ∃j_:Int,(mx (wrap64 (Int.tdiv (wrap64 ((wrap64 ((wrap64 (a1+t114))+(wrap64 (t113*a0_1)))) - 1)) (wrap64 (t113*a0_1)))) 1)=j_:=⟨_,rfl⟩
     replace H:(some (wrap64 (t113*(ji15)),0))=some (r1,r2):=by first|(rw [hji15] at H;exact H)|(simp only [hji15] at H|-;exact H)
     (try rw [hji15] at A13)
     have hji15_:(if (wrap64 (Int.tdiv (wrap64 ((wrap64 ((wrap64 (a1+t114))+(wrap64 (t113*a0_1)))) - 1)) (wrap64 (t113*a0_1))))<1 then 1 else (wrap64 (Int.tdiv (wrap64 ((wrap64 ((wrap64 (a1+t114))+(wrap64 (t113*a0_1)))) - 1)) (wrap64 (t113*a0_1)))))=ji15:=hji15;simp only [Zx,Zy] at H;obtain ⟨rfl,rfl⟩:=H;obtain ⟨hcz16_0,hfz16_0,hcz16_1,hfz16_1,hcz16_2,hfz16_2⟩:=bc3_ BK111.out
     go_wp2_with (first|((with_reducible refine abz (f:=89) rfl ?_);refine gl_ (some 22) Tryz.func89 #[.agg #[.int .i64 a0_0, .int .i64 a0_1, .int .i64 a0_2]] ?_;(with_reducible refine (cyz.calls a0_0 a0_1 a0_2 t113 t114 _ A13.out).mono ?_);rintro e w17 ⟨rfl,hb⟩;refine ⟨_,rfl,?_⟩;have n_:=Zb (bb_ BK111 hb) (hs_ HB hb);clear BK111 HB;obtain ⟨BK111,HB⟩:=n_;(try clear hb);obtain ⟨hcz18_0,hfz18_0,hcz18_1,hfz18_1,hcz18_2,hfz18_2⟩:=bc3_ BK111.out))
     go_ret2;exact ⟨by first|rfl|(simp [ccz,cdz] <;>rfl)|(simp only [<-hji15];first|rfl|(simp [ccz,cdz] <;>rfl))|(simp [*,ccz,cdz] <;>rfl),bl_⟩
section
variable {F : Fence} {n : Nat} {P : Program}
def SeqN {α:Type} (F:Fence) (n:Nat) (P:Program) (g:Nat) (lb:Array Value) (encs:α->Array Value) (Hd:Nat->α->World->Prop) (Kp:World->World->Prop) (S:List α->Prop) (M:Nat) (w:World):Prop:=
 ∀(l:Nat) (J:List α->World->Prop) (W:World),Below w.heap.size w W->(∀s A B,J s A->A.grownBy B none->J s B)->
  (∀pre x W1,J pre W1->Hd pre.length x W1->pre.length<M->YieldAt F (n - 1) P l (encs x) W1 fun e W'=>e= .returned (.bool true)/\J (pre++ [x]) W'/\Kp W1 W')->
  J [] W->CallsIn F n P g (#[.func (.yield l) #[] #[]] ++lb) W fun e W'=>(∃v,e= .returned v)/\ ∃xs,S xs/\J xs W'
def plainPostN {α:Type} (B:Nat) (Kp:World->World->Prop) (I:List α->World->Prop) (xs:List α) (W:World):Exit->Act->World->Prop
 | .normal,_,W'=>KeepsFrom B W W'/\Kp W W'/\I xs W'
 |_,_,_=>False
theorem wpIn_range_nth {α : Type} {g : Operand} {ps : Array Tmp} {assign body : Code} {Q : Exit -> Act -> World -> Prop} {a : Act} {w : World}
  (hro:F.round=none) (h1:1<=n) {gf:Nat} {lb:Array Value} (hg:a.eval g= .func (.func gf) #[] lb) (hFg:F.fn gf) (eg: ∀args w,(callFunc gf args).run P w= .ok (.enter gf args) w)
  {encs:α->Array Value} {Hd:Nat->α->World->Prop} {Kp:World->World->Prop} {S:List α->Prop} {M:Nat} {w0:World} (hseq:SeqN F (n - 1) P gf lb encs Hd Kp S M w0)
  (hKt: ∀ {A B C:World},Kp A B->Kp B C->Kp A C) (hKb: ∀(W:World) (l:Nat) (o o':Obj),w.heap.size<=l->W.heap[l]?=some o->o.isCells=false->Kp W (W.putObj l o')) (hb0:Below w0.heap.size w0 w) (hps: ∀x,(encs x).size=ps.size)
  (I:List α->World->Prop) (hI:OwnFrom w.heap.size I) (hHd: ∀m x,OwnFrom w.heap.size (fun (_:Unit) W=>Hd m x W)) (h0:I [] w) (a₁:α->Act)
  (hassign: ∀(l:Nat) (x:α) (W:World) (K:Act->World->Prop),K (a₁ x) W->
   assign.wpIn (F.inRound l) (n - 1 - 1) P (Exit.then K (fun _ _ _=>False)) { tmps:=(ps.zip (encs x)).foldl (fun t (p,v)=>t.setIfInBounds p v) a.tmps,defers:= [] } W)
  (hbody: ∀(l:Nat) (pre:List α) (x:α) (W:World),I pre W->Hd pre.length x W->pre.length<M->body.wpIn (F.inRound l) (n - 1 - 1) P (plainPostN w.heap.size Kp I (pre++ [x]) W) (a₁ x) W)
  (hdone: ∀(D:Nat) (xs:List α) (W:World),w.heap.size<=D->S xs->I xs W->W.heap[D]?=some (.deferred (some []))->Q .normal { a with defers:= { target:= .collected D,args:= #[] } ::a.defers } W):
  (Code.rangeFunc g ps assign body).wpIn F n P Q a w:=by
 refine wpIn_rangeFunc fun fn hfn=> ?_
 rw [hro];obtain ⟨L,hL⟩: ∃L:LoopState->Option Code->Loop,L=fun st pe=> { state:=st,pending:=pe,fn,tmps:=a.tmps,params:=ps,assign,body,defers:=w.heap.size } :=⟨_,rfl⟩
 obtain ⟨V,hV⟩: ∃V,(w.alloc (.deferred (some []))).alloc (.loop (L .ready none))=V:=⟨_,rfl⟩
 have vl:V.heap[w.heap.size+1]?=some (.loop (L .ready none)):=by
  rw [<-hV];have:=World.alloc_heap_new (w.alloc (.deferred (some []))) (.loop (L .ready none));rwa [World.size_alloc] at this
 have vd:V.heap[w.heap.size]?=some (.deferred (some [])):=by
  rw [<-hV];exact (Below.heap_alloc _ _ _ (by simp)).trans (World.alloc_heap_new w _)
 refine ⟨w.heap.size+1, [{ target:= .collected w.heap.size,args:= #[] }],V, { target:= .fn (.func gf) lb,args:= #[.func (.yield (w.heap.size+1)) #[] #[]] },V,gf,
  #[.func (.yield (w.heap.size + 1)) #[] #[]] ++ lb, V, by rw [<- hV, hL]; exact run_enterLoop_outer _ _ _ _ _, by simp only [resolve, hg]; simp [go_sem], ?_, by simp [invoke, go_sem, eg], fun _ => h1, ?_⟩
 ·intro f' hf';simp [Target.leads] at hf';subst hf';exact hFg
 refine (hseq (w.heap.size+1) (fun pre W=>(I pre W/\w.heap.size+1<W.heap.size)/\W.heap[w.heap.size+1]?=some (.loop (L .ready none))/\W.heap[w.heap.size]?=some (.deferred (some []))) V ?_ ?_ ?_ ?_).mono ?_
 ·rw [<-hV];exact hb0.trans ((((Zw _ w).alloc (Zv _) _).alloc (by simp) _).mono hb0.size)
 ·rintro s A B ⟨⟨i1,i2⟩,i3,i4⟩ hgr;exact ⟨⟨hI s A B none i1 hgr (fun r e=>by cases e),Zp i2 hgr.size⟩,(hgr.block _ i2 (by simp)).trans i3,(hgr.block _ (by omega) (by simp)).trans i4⟩
 ·rintro pre x W ⟨⟨i1,i2⟩,i3,i4⟩ hx hlen;have hy:=run_yield (P:=P) (args:=encs x) i3 (by rw [hL];exact hps x);rw [hL] at hy;refine ⟨fn,_,assign,body,hy,roundIn_of_wpIn hfn (hassign _ x W _ ?_)⟩;refine ⟨_,run_beginRound i3 (by rw [hL]),?_⟩;have l2:(W.putObj (w.heap.size+1) (.loop { L .ready none with state:= .busy })).heap[w.heap.size+1]?=some (.loop { L .ready none with state:= .busy }):=World.putObj_heap_same i2;have d2:(W.putObj (w.heap.size+1) (.loop { L .ready none with state:= .busy })).heap[w.heap.size]?=some (.deferred (some [])):=(World.putObj_heap_other (by omega)).trans i4;have k2:Kp W (W.putObj (w.heap.size+1) (.loop { L .ready none with state:= .busy })):=hKb _ _ _ _ (by omega) i3 rfl;refine wpIn_mono (hbody _ pre x _ (hI.putObj _ i1 (by omega) i3 rfl) ((hHd _ x).putObj (s:=()) _ hx (by omega) i3 rfl) hlen) ?_;rintro e a3 W3 hp
  cases e with
  |normal=>
   obtain ⟨q1,q2,q3⟩:=hp;have l3:=q1.same _ _ (by omega) l2 rfl;have d3:=q1.same _ _ (Zv _) d2 rfl;have hr:=run_endRound (P:=P) none l3;have hlt:=(Array.getElem?_eq_some_iff.1 l3).1;refine ⟨_,_,hr,rfl,⟨⟨hI.putObj _ q3 (by omega) l3 rfl,Zp hlt (grownBy_putObj' _ _ _).size⟩,?_,(World.putObj_heap_other (by omega)).trans d3⟩,hKt (hKt k2 q2) (hKb _ _ _ _ (by omega) l3 rfl)⟩;rw [World.putObj_heap_same hlt,hL];rfl
  |ret=>exact hp.elim
  |exit id=>exact hp.elim
  |goto t=>exact hp.elim
  |panic ch=>exact hp.elim
  |outgrown=>exact hp.elim
 ·refine ⟨⟨?_,?_⟩,vl,vd⟩
  ·rw [<-hV];exact hI.alloc _ (hI.alloc _ h0)
  ·rw [<-hV];simp
 ·rintro e W2 ⟨⟨v,rfl⟩,xs,hS,⟨i1,i2⟩,i3,i4⟩;exact ⟨none,_,by have:=run_endLoop (P:=P) i3 (by rw [hL];simp);rw [hL] at this;exact this,hdone _ xs _ (Zv _) hS (hI.putObj _ i1 (by omega) i3 rfl) ((World.putObj_heap_other (by omega)).trans i4)⟩
end
end Go.Proofs.Xc
end
section
namespace Go.Proofs.Xc
open Go.RowKit Go.Proofs.Pw Go.Proofs.Pl Go.Proofs.Pm
attribute [local go_sem] baz bbz bmz bnz a2z a3z bcz bdz
attribute [local go_sem] Oper.semAt_some
def four4 (n:Int):List Int:= [n / 256 / 256 / 256 % 256,n / 256 / 256 % 256,n / 256 % 256,n % 256]
def laidL (ahead:Nat) (b:List Int):List Int:=(four4 (b.length:Int)).drop (4 - ahead)++b
def KpC (ex:Nat->Prop) (W W':World):Prop:=W.heap.size<=W'.heap.size/\ ∀(k:Nat) (o:Obj),W.heap[k]?=some o->o.isCells=true-> ¬ex k->W'.heap[k]?=some o
theorem KpC.trans {ex:Nat->Prop} {A B C:World} (h:KpC ex A B) (k:KpC ex B C):KpC ex A C:=⟨Zt h.1 k.1,fun i o hi ho he=>k.2 i o (h.2 i o hi ho he) ho he⟩
theorem KpC.refl (ex:Nat->Prop) (A:World):KpC ex A A:=⟨Zv _,fun _ _ h _ _=>h⟩
theorem KpC.of_below {ex:Nat->Prop} {A B:World} (h:Below A.heap.size A B):KpC ex A B:=⟨h.size,fun k o hk _ _=>(h.block k (a4z hk)).trans hk⟩
def ItN (all:List Int) (m:Nat) (x:Nat×Int) (_:World):Prop:=x.1=m/\all[m]?=some x.2
theorem laid.calls (ahead:Int) (A:Option Addr) (n c:Nat) (W:World):Calls Tryz.prog 90 #[.int .i64 ahead, .slice A n c] W fun e w'=>e= .returned (.func (.func 134) #[] #[.pointer (some ⟨W.heap.size+1,0,none⟩), .pointer (some ⟨W.heap.size,0,none⟩)])/\w'=(W.alloc (.cells #[.int .i64 ahead] 3)).alloc (.cells #[.slice A n c] 34):=by
 have hmf: ∀(fn:Fn) (first cap:Array Value) (w:World),(Instr.makeFunc fn first cap).run Tryz.prog w= .ok (.func fn first cap) w:=fun _ _ _ _=>rfl
 go_enter Tryz.func90,Tryz.ntmps90;go_wp2;go_ret;exact ⟨by simp,rfl⟩
theorem C_numsK {k:IntKind} {w:World} {g:Nat} {t:TypeId} {xs:List Int} (h:w.heap[g]?=some (.cells (nums k xs).toArray t (0,0))) (hl:xs.length<=9223372036854775807):Kd.C (Kd.int k) w (some ⟨g,0,none⟩) xs.length xs:=by
 refine ⟨rfl,hl,fun _=>⟨_,rfl,fun j p hp=>⟨[.int k p],rfl,rfl,fun i u hu=> ?_⟩⟩⟩;obtain ⟨hj,rfl⟩:=Zk hp
 cases i with
 |succ i=>simp at hu
 |zero=>
  obtain rfl:Value.int k xs[j] =u:=by simpa using hu
  have e:(⟨g,0,none⟩:Addr).add (j*(Kd.int k).sz+0)=⟨g,j,none⟩:=by
   show (⟨g,0,none⟩:Addr).add (j*1+0)=_;unfold Addr.add;split<;>simp_all
  rw [e,aez h j];simp [nums,hj]
theorem C_twoB {w:World} {g cx cy:Nat} {X Y:Option Addr} {x y:List Int} (h:w.heap[g]?=some (.cells #[.slice X x.length cx, .slice Y y.length cy] 34 (0,0))) (h1:x.length<=cx) (h2:y.length<=cy) (hx:Kd.C (Kd.int .u8) w X x.length x) (hy:Kd.C (Kd.int .u8) w Y y.length y):Kd.C (Kd.slice 5 (Kd.int .u8)) w (some ⟨g,0,none⟩) [x,y].length [x,y] :=by
 have ad: ∀j,(⟨g,0,none⟩:Addr).add (j*1+0)=⟨g,j,none⟩:=fun j=>by
  unfold Addr.add;split<;>simp_all
 refine ⟨rfl,by simp,fun _=>⟨_,rfl,fun j p hp=> ?_⟩⟩
 match j,hp with
 |0,hp=>
  obtain rfl:x=p:=by simpa using hp
  refine ⟨[.slice X x.length cx],rfl,⟨X,cx,rfl,h1,hx⟩,fun i u hu=> ?_⟩
  cases i with
  |succ i=>simp at hu
  |zero=>
   obtain rfl:Value.slice X x.length cx=u:=by simpa using hu
   rw [show (⟨g,0,none⟩:Addr).add (0*(Kd.slice 5 (Kd.int .u8)).sz+0)=⟨g,0,none⟩ from ad 0,aez h 0];rfl
 |1,hp=>
  obtain rfl:y=p:=by simpa using hp
  refine ⟨[.slice Y y.length cy],rfl,⟨Y,cy,rfl,h2,hy⟩,fun i u hu=> ?_⟩
  cases i with
  |succ i=>simp at hu
  |zero=>
   obtain rfl:Value.slice Y y.length cy=u:=by simpa using hu
   rw [show (⟨g,0,none⟩:Addr).add (1*(Kd.slice 5 (Kd.int .u8)).sz+0)=⟨g,1,none⟩ from ad 1,aez h 1];rfl
 |j+2,hp=>simp at hp
theorem laid1_in0 (l b1 b2 n c : Nat) (ex : Nat -> Prop) (A : Option Addr) (b : List Int) (W : World) (J : List (Nat × Int) -> World -> Prop)
  (hb:Kd.C (Kd.int .u8) W A b.length b) (hn:b.length=n) (hnc:n<=c) (hnn:n<=100000) (hB1:W.heap[b1]?=some (.cells #[.int .i64 0] 3 (0,0))) (hB2:W.heap[b2]?=some (.cells #[.slice A n c] 34 (0,0))) (hex: ∀k,ex k->k<W.heap.size) (hJ: ∀s X Y,J s X->X.grownBy Y none->J s Y)
  (hY: ∀pre x W1,J pre W1->ItN (laidL 0 b) pre.length x W1->pre.length<(laidL 0 b).length->YieldAt Fence.wide (7 - 1) Tryz.prog l #[.int .i64 (x.1:Int), .int .u8 x.2] W1 fun e W'=>e= .returned (.bool true)/\J (pre++ [x]) W'/\KpC ex W1 W') (hJ0:J [] W):
  CallsIn Fence.wide 7 Tryz.prog 134 #[.func (.yield l) #[] #[], .pointer (some ⟨b2,0,none⟩), .pointer (some ⟨b1,0,none⟩)] W fun e W'=>(∃v,e= .returned v)/\ ∃xs:List (Nat×Int),xs.map Prod.snd=laidL 0 b/\xs.length=(laidL 0 b).length/\J xs W':=by
 obtain ⟨all,hall⟩: ∃all,laidL 0 b=all:=⟨_,rfl⟩;have HAL0:=Za hall;rw [hall] at hY|-;clear hall;have hc1:W.cell? ⟨b1,0,none⟩=some (.int .i64 0):=(aez hB1 0).trans rfl;have hc2:W.cell? ⟨b2,0,none⟩=some (.slice A n c):=(aez hB2 0).trans rfl;have HB:=Za hb;have HN:=Za hn;have HEX:=Za hex;have HJ:=Za hJ;have HY:=Za hY;have HJ0:=Za hJ0;have HB1:=Za hB1;have HB2:=Za hB2;have n0:(0:Int)<=(n:Int):=by omega
 have d1:(0:Int)<=(n:Int) / 256:=by omega
 have d2:(0:Int)<=(n:Int) / 256 / 256:=by omega
 have d3:(0:Int)<=(n:Int) / 256 / 256 / 256:=by omega
 clear hb hn hex hJ hY hJ0 hB1 hB2;refine callsIn_of_wp Tryz.func134 rfl trivial ?_ rfl;simp only [Tryz.ntmps134,List.size_toArray,List.length_cons,List.length_nil,Nat.reduceAdd,Nat.reduceSub,Array.replicate_succ,Array.replicate_zero,List.push_toArray,List.append_toArray,List.nil_append,List.cons_append]
 gi_wp2
 have hf4:four4 (n:Int)= [(n:Int) / 256 / 256 / 256,(n:Int) / 256 / 256,(n:Int) / 256 % 256,(n:Int) % 256] :=by unfold four4;simp;omega
 have HF4:=Za hf4
 generalize (n:Int) / 256 / 256 / 256=f0 at *
 generalize (n:Int) / 256 / 256=f1 at *
 generalize (n:Int) / 256 % 256=f2 at *
 generalize (n:Int) % 256=f3 at *
 generalize (n:Int) / 256=f5 at *
 have HFB:=Za (heap_alloc_new W (.cells #[.int .u8 f0, .int .u8 f1, .int .u8 f2, .int .u8 f3] 43));have HBW:=Za (aoz (Zw W.heap.size W) (.cells #[.int .u8 f0, .int .u8 f1, .int .u8 f2, .int .u8 f3] 43));have hz1:=World.size_alloc W (.cells #[.int .u8 f0, .int .u8 f1, .int .u8 f2, .int .u8 f3] 43);have HSZ:=Za hz1;clear hf4 d1 d2 d3 hz1;generalize W.alloc (.cells #[.int .u8 f0, .int .u8 f1, .int .u8 f2, .int .u8 f3] 43)=w1 at HFB HBW HSZ|-;obtain ⟨fb,hfb⟩: ∃fb,fb=W.heap.size:=⟨_,rfl⟩;have HFE:=Za hfb;rw [<-hfb] at HFB|-;clear hfb;have e1:w1.cell? ⟨b1,0,none⟩=some (.int .i64 0):=(aez (aLz HB1.out HBW.out) 0).trans rfl;have e2:w1.cell? ⟨b2,0,none⟩=some (.slice A n c):=(aez (aLz HB2.out HBW.out) 0).trans rfl;have hw4:wrap64 4=4:=by unfold wrap64;omega
 have hw0:wrap64 0=0:=by unfold wrap64;omega
 clear hc1 hc2
 have HALL:=Za (show [[],b].flatten=all by
  rw [<-HAL0.out];unfold laidL;rw [HN.out,HF4.out]
  simp)
 have HALN:=Za (show all.length=n+0 by rw [<-HALL.out];simp [HN.out];try omega);have hcc:=C_twoB (w:=(w1.alloc (.cells #[.slice (some ⟨fb,0,none⟩) 0 0, .slice A n c] 34)).drew) (g:=w1.heap.size) (x:= []) (y:=b) (X:=some ⟨fb,0,none⟩) (cx:=0) (Y:=A) (cy:=c) (by rw [HN.out];exact heap_alloc_new _ _) (by simp) (by rw [HN.out];exact hnc) ⟨rfl,by simp,fun h=>Yf h (by decide)⟩ (Kd.bzz (Kd.aMz (Kd.aMz HB.out HBW.out) (aoz (Zw _ _) _)) 1);have HCON:=Za (concat_b.calls (some ⟨w1.heap.size,0,none⟩) 2 [[],b] (w1.alloc (.cells #[.slice (some ⟨fb,0,none⟩) 0 0, .slice A n c] 34)).drew hcc (by simp) (by rw [HALL.out,HALN.out];omega));rw [HALL.out,show [[],b].length=2 from rfl] at HCON;clear hcc;refine (wpIn_wide (n:=7)).2 ?_;refine bXz (n:=8) (S:=fun w'=>w'.cell? ⟨b1,0,none⟩=some (.int .i64 0)/\w'.cell? ⟨b2,0,none⟩=some (.slice A n c)) (ds:= [5]) (bA 8 0) kr_ rfl rfl ⟨e1,e2⟩ (fun hHeld=> ?_);refine pu_ 7 32 128 ?_
 refine tk_ 0 25 129 hHeld ?_;refine pu_ 1 26 131 ?_;refine pu_ 2 27 135 ?_;refine tk_ 3 28 143 hHeld ?_;refine one_ (i:=4) (N:=some 29) (bA 8 159) rfl rfl kr_ (by decide) (fun K hK=> ?_);refine ciz (w1:= ?_) (v:= ?_) (by rfl) rfl ?_ ?_;rotate_left 2
 ·go_simp;constructor
  ·rfl
  ·rfl
 refine hK.out _ _ ⟨(World.cell?_alloc_past _ _ _ (Zj _ _ e1)).trans e1,(World.cell?_alloc_past _ _ _ (Zj _ _ e2)).trans e2⟩ (fun hHeld=> ?_);clear hK K;refine norm_ (a':= ?_) ?_ ?_;rotate_left
 ·show Act.put _ (some 29) _=_;simp only [Act.put,Zg,Zh,Zi,i64_w,i32_w];rfl
 refine last_ (i:=5) (N:=some 30) (bA 8 191) rfl rfl kr_ (by decide) (fun K hK=> ?_);refine goes_ Tryz.func135 kr_ rfl #[.slice (some ⟨w1.heap.size,0,none⟩) 2 2] (by rfl) rfl rfl am_ ?_
 with_reducible refine (HCON.out).mono ?_
 rintro e w4 ⟨v4,rfl,r1,r2⟩;refine ⟨_,rfl,?_⟩;obtain ⟨va,vc,rfl⟩:=Kd.a7z r1;have R1:=Za r1;have R2:=Za r2;clear r1 r2;refine hK.out _ _ ?_;clear hK K;refine norm_ (a':= ?_) ?_ ?_;rotate_left
 ·show Act.put _ (some 30) _=_;simp only [Act.put,Zg,Zh,Zi,i64_w,i32_w];rfl
 refine pu_ 6 31 255 ?_;refine done_ kr_ ?_;have HW4:=Za (show Below W.heap.size W w4 from HBW.out.trans ((show Below w1.heap.size w1 w4 from (show Below w1.heap.size w1 (w1.alloc (.cells #[.slice (some ⟨fb,0,none⟩) 0 0, .slice A n c] 34)).drew from cIz (aoz (Zw _ _) _)).trans (R2.out.mono (by simp))).mono HBW.out.size));have hR1:=R1.out
 have HR4:=Za (show∀w5,KpC ex w4 w5->Kd.C (Kd.int .u8) w5 va all.length all from fun w5 hk=>(Kd.aSz (Kd.c5z (Kd.b3z rfl hR1) (fun k hk2=>by
  obtain ⟨cells,hc⟩:=Kd.R_typed hR1 k hk2.symm;have h1:=Kd.chz hR1 k hk2.symm
  exact (hk.2 k _ hc rfl (fun e=>by have:=HEX.out k e;have h3:=HBW.out.size;simp at h1;omega)).trans hc.symm))).2.2)
 have HJ4:=Za (show J [] w4 from HJ.out _ W w4 HJ0.out ⟨HW4.out.os,HW4.out.tape,HW4.out.output,HW4.out.size,fun i hi _=>HW4.out.block i hi⟩);obtain ⟨N,hN⟩: ∃N,all.length=N:=⟨_,rfl⟩;have HNN:=Za hN;have hNb:N<=1000000:=by have:=HALN.out;omega
 rw [hN] at HR4 HY|-;clear hR1 hN e1 e2 hw4 hw0 HCON HALL HF4
 gi_wp2
 gi_loopw [32] (fun iv wr=> ∃(k:Nat) (pre:List (Nat×Int)),k<=N/\iv= .int .i64 (k:Int)/\Aside0 (pre.map Prod.snd=all.take k)/\Aside0 (J pre wr)/\Aside0 (KpC ex w4 wr)) (fun iv _=>N - (intOf iv).toNat)
 case atStart=>exact ⟨0, [],Nat.zero_le _,rfl,⟨rfl⟩,HJ4,⟨KpC.refl _ _⟩⟩
 clear HJ4;obtain ⟨w5,rfl⟩: ∃w',w'=wr:=⟨_,rfl⟩;obtain ⟨k,pre,hk,rfl,HP,HJP,HK⟩:=hrel;by_cases hlt:k<N
 ·obtain ⟨x,hx⟩: ∃x,all[k]?=some x:=⟨_,Zf (by have:=HNN.out;omega)⟩;obtain ⟨ad,rfl,hcx⟩:=cuz (HNN.out.symm▸HR4.out w5 HK.out) k x hx;have hpl:pre.length=k:=by have:=congrArg List.length HP.out;simp at this;have:=HNN.out;omega
  obtain ⟨fn,tmps,assign,body,hy,hR⟩:=HY.out pre (k,x) w5 HJP.out (by rw [hpl];exact ⟨rfl,hx⟩) (by omega);have HRR:=Za hR;have HP2:=Za (show (pre++ [(k,x)]).map Prod.snd=all.take (k+1) by rw [List.map_append,HP.out,List.take_add_one,hx];rfl);have k1:(0:Int)<=(k:Int):=by omega
  have k2:(k:Int)<(N:Int):=by omega
  dsimp only at hy;clear hR hx hpl
  gi_wp2
  refine HRR.out.mono ?_;rintro e w6 ⟨rfl,hJ3,hk3⟩;have HJ3:=Za hJ3;have HK3:=Za (HK.out.trans hk3);clear hy hJ3 hk3 hcx
  gi_wp2
  go_roundw
  case rel=>exact ⟨k+1,pre++ [(k,x)],by omega,by go_num,HP2,HJ3,HK3⟩
  case measure=>simp [intOf];omega
 ·obtain rfl:k=N:=by omega
  have HE:=Za (show pre.map Prod.snd=all by rw [HP.out,List.take_of_length_le (by rw [HNN.out];exact Zv _)])
  gi_wp2
  go_end0
  exact ⟨⟨_,rfl⟩,pre,HE.out,by rw [<-HE.out,List.length_map],HJP.out⟩
theorem laid1_in4 (l b1 b2 n c : Nat) (ex : Nat -> Prop) (A : Option Addr) (b : List Int) (W : World) (J : List (Nat × Int) -> World -> Prop)
  (hb:Kd.C (Kd.int .u8) W A b.length b) (hn:b.length=n) (hnc:n<=c) (hnn:n<=100000) (hB1:W.heap[b1]?=some (.cells #[.int .i64 4] 3 (0,0))) (hB2:W.heap[b2]?=some (.cells #[.slice A n c] 34 (0,0))) (hex: ∀k,ex k->k<W.heap.size) (hJ: ∀s X Y,J s X->X.grownBy Y none->J s Y)
  (hY: ∀pre x W1,J pre W1->ItN (laidL 4 b) pre.length x W1->pre.length<(laidL 4 b).length->YieldAt Fence.wide (7 - 1) Tryz.prog l #[.int .i64 (x.1:Int), .int .u8 x.2] W1 fun e W'=>e= .returned (.bool true)/\J (pre++ [x]) W'/\KpC ex W1 W') (hJ0:J [] W):
  CallsIn Fence.wide 7 Tryz.prog 134 #[.func (.yield l) #[] #[], .pointer (some ⟨b2,0,none⟩), .pointer (some ⟨b1,0,none⟩)] W fun e W'=>(∃v,e= .returned v)/\ ∃xs:List (Nat×Int),xs.map Prod.snd=laidL 4 b/\xs.length=(laidL 4 b).length/\J xs W':=by
 obtain ⟨all,hall⟩: ∃all,laidL 4 b=all:=⟨_,rfl⟩;have HAL0:=Za hall;rw [hall] at hY|-;clear hall;have hc1:W.cell? ⟨b1,0,none⟩=some (.int .i64 4):=(aez hB1 0).trans rfl;have hc2:W.cell? ⟨b2,0,none⟩=some (.slice A n c):=(aez hB2 0).trans rfl;have HB:=Za hb;have HN:=Za hn;have HEX:=Za hex;have HJ:=Za hJ;have HY:=Za hY;have HJ0:=Za hJ0;have HB1:=Za hB1;have HB2:=Za hB2;have n0:(0:Int)<=(n:Int):=by omega
 have d1:(0:Int)<=(n:Int) / 256:=by omega
 have d2:(0:Int)<=(n:Int) / 256 / 256:=by omega
 have d3:(0:Int)<=(n:Int) / 256 / 256 / 256:=by omega
 clear hb hn hex hJ hY hJ0 hB1 hB2;refine callsIn_of_wp Tryz.func134 rfl trivial ?_ rfl;simp only [Tryz.ntmps134,List.size_toArray,List.length_cons,List.length_nil,Nat.reduceAdd,Nat.reduceSub,Array.replicate_succ,Array.replicate_zero,List.push_toArray,List.append_toArray,List.nil_append,List.cons_append]
 gi_wp2
 have hf4:four4 (n:Int)= [(n:Int) / 256 / 256 / 256,(n:Int) / 256 / 256,(n:Int) / 256 % 256,(n:Int) % 256] :=by unfold four4;simp;omega
 have HF4:=Za hf4
 generalize (n:Int) / 256 / 256 / 256=f0 at *
 generalize (n:Int) / 256 / 256=f1 at *
 generalize (n:Int) / 256 % 256=f2 at *
 generalize (n:Int) % 256=f3 at *
 generalize (n:Int) / 256=f5 at *
 have HFB:=Za (heap_alloc_new W (.cells #[.int .u8 f0, .int .u8 f1, .int .u8 f2, .int .u8 f3] 43));have HBW:=Za (aoz (Zw W.heap.size W) (.cells #[.int .u8 f0, .int .u8 f1, .int .u8 f2, .int .u8 f3] 43));have hz1:=World.size_alloc W (.cells #[.int .u8 f0, .int .u8 f1, .int .u8 f2, .int .u8 f3] 43);have HSZ:=Za hz1;clear hf4 d1 d2 d3 hz1;generalize W.alloc (.cells #[.int .u8 f0, .int .u8 f1, .int .u8 f2, .int .u8 f3] 43)=w1 at HFB HBW HSZ|-;obtain ⟨fb,hfb⟩: ∃fb,fb=W.heap.size:=⟨_,rfl⟩;have HFE:=Za hfb;rw [<-hfb] at HFB|-;clear hfb;have e1:w1.cell? ⟨b1,0,none⟩=some (.int .i64 4):=(aez (aLz HB1.out HBW.out) 0).trans rfl;have e2:w1.cell? ⟨b2,0,none⟩=some (.slice A n c):=(aez (aLz HB2.out HBW.out) 0).trans rfl;have hw4:wrap64 4=4:=by unfold wrap64;omega
 have hw0:wrap64 0=0:=by unfold wrap64;omega
 clear hc1 hc2
 have HALL:=Za (show [[f0,f1,f2,f3],b].flatten=all by
  rw [<-HAL0.out];unfold laidL;rw [HN.out,HF4.out]
  simp)
 have HALN:=Za (show all.length=n+4 by rw [<-HALL.out];simp [HN.out];try omega);have hcc:=C_twoB (w:=(w1.alloc (.cells #[.slice (some ⟨fb,0,none⟩) 4 4, .slice A n c] 34)).drew) (g:=w1.heap.size) (x:= [f0,f1,f2,f3]) (y:=b) (X:=some ⟨fb,0,none⟩) (cx:=4) (Y:=A) (cy:=c) (by rw [HN.out];exact heap_alloc_new _ _) (by simp) (by rw [HN.out];exact hnc) (C_numsK (k:= .u8) (xs:= [f0,f1,f2,f3]) (w:=(w1.alloc (.cells #[.slice (some ⟨fb,0,none⟩) 4 4, .slice A n c] 34)).drew) (aLz HFB.out (cIz (aoz (Zw _ _) _))) (by simp)) (Kd.bzz (Kd.aMz (Kd.aMz HB.out HBW.out) (aoz (Zw _ _) _)) 1);have HCON:=Za (concat_b.calls (some ⟨w1.heap.size,0,none⟩) 2 [[f0,f1,f2,f3],b] (w1.alloc (.cells #[.slice (some ⟨fb,0,none⟩) 4 4, .slice A n c] 34)).drew hcc (by simp) (by rw [HALL.out,HALN.out];omega));rw [HALL.out,show [[f0,f1,f2,f3],b].length=2 from rfl] at HCON;clear hcc;refine (wpIn_wide (n:=7)).2 ?_;refine bXz (n:=8) (S:=fun w'=>w'.cell? ⟨b1,0,none⟩=some (.int .i64 4)/\w'.cell? ⟨b2,0,none⟩=some (.slice A n c)) (ds:= [5]) (bA 8 0) kr_ rfl rfl ⟨e1,e2⟩ (fun hHeld=> ?_)
 refine pu_ 7 32 128 ?_;refine tk_ 0 25 129 hHeld ?_;refine pu_ 1 26 131 ?_;refine pu_ 2 27 135 ?_;refine tk_ 3 28 143 hHeld ?_;refine one_ (i:=4) (N:=some 29) (bA 8 159) rfl rfl kr_ (by decide) (fun K hK=> ?_);refine ciz (w1:= ?_) (v:= ?_) (by rfl) rfl ?_ ?_;rotate_left 2
 ·go_simp;constructor
  ·rfl
  ·rfl
 refine hK.out _ _ ⟨(World.cell?_alloc_past _ _ _ (Zj _ _ e1)).trans e1,(World.cell?_alloc_past _ _ _ (Zj _ _ e2)).trans e2⟩ (fun hHeld=> ?_);clear hK K;refine norm_ (a':= ?_) ?_ ?_;rotate_left
 ·show Act.put _ (some 29) _=_;simp only [Act.put,Zg,Zh,Zi,i64_w,i32_w];rfl
 refine last_ (i:=5) (N:=some 30) (bA 8 191) rfl rfl kr_ (by decide) (fun K hK=> ?_);refine goes_ Tryz.func135 kr_ rfl #[.slice (some ⟨w1.heap.size,0,none⟩) 2 2] (by rfl) rfl rfl am_ ?_
 with_reducible refine (HCON.out).mono ?_
 rintro e w4 ⟨v4,rfl,r1,r2⟩;refine ⟨_,rfl,?_⟩;obtain ⟨va,vc,rfl⟩:=Kd.a7z r1;have R1:=Za r1;have R2:=Za r2;clear r1 r2;refine hK.out _ _ ?_;clear hK K;refine norm_ (a':= ?_) ?_ ?_;rotate_left
 ·show Act.put _ (some 30) _=_;simp only [Act.put,Zg,Zh,Zi,i64_w,i32_w];rfl
 refine pu_ 6 31 255 ?_;refine done_ kr_ ?_;have HW4:=Za (show Below W.heap.size W w4 from HBW.out.trans ((show Below w1.heap.size w1 w4 from (show Below w1.heap.size w1 (w1.alloc (.cells #[.slice (some ⟨fb,0,none⟩) 4 4, .slice A n c] 34)).drew from cIz (aoz (Zw _ _) _)).trans (R2.out.mono (by simp))).mono HBW.out.size));have hR1:=R1.out
 have HR4:=Za (show∀w5,KpC ex w4 w5->Kd.C (Kd.int .u8) w5 va all.length all from fun w5 hk=>(Kd.aSz (Kd.c5z (Kd.b3z rfl hR1) (fun k hk2=>by
  obtain ⟨cells,hc⟩:=Kd.R_typed hR1 k hk2.symm;have h1:=Kd.chz hR1 k hk2.symm
  exact (hk.2 k _ hc rfl (fun e=>by have:=HEX.out k e;have h3:=HBW.out.size;simp at h1;omega)).trans hc.symm))).2.2)
 have HJ4:=Za (show J [] w4 from HJ.out _ W w4 HJ0.out ⟨HW4.out.os,HW4.out.tape,HW4.out.output,HW4.out.size,fun i hi _=>HW4.out.block i hi⟩);obtain ⟨N,hN⟩: ∃N,all.length=N:=⟨_,rfl⟩;have HNN:=Za hN;have hNb:N<=1000000:=by have:=HALN.out;omega
 rw [hN] at HR4 HY|-;clear hR1 hN e1 e2 hw4 hw0 HCON HALL HF4
 gi_wp2
 gi_loopw [32] (fun iv wr=> ∃(k:Nat) (pre:List (Nat×Int)),k<=N/\iv= .int .i64 (k:Int)/\Aside0 (pre.map Prod.snd=all.take k)/\Aside0 (J pre wr)/\Aside0 (KpC ex w4 wr)) (fun iv _=>N - (intOf iv).toNat)
 case atStart=>exact ⟨0, [],Nat.zero_le _,rfl,⟨rfl⟩,HJ4,⟨KpC.refl _ _⟩⟩
 clear HJ4;obtain ⟨w5,rfl⟩: ∃w',w'=wr:=⟨_,rfl⟩;obtain ⟨k,pre,hk,rfl,HP,HJP,HK⟩:=hrel;by_cases hlt:k<N
 ·obtain ⟨x,hx⟩: ∃x,all[k]?=some x:=⟨_,Zf (by have:=HNN.out;omega)⟩;obtain ⟨ad,rfl,hcx⟩:=cuz (HNN.out.symm▸HR4.out w5 HK.out) k x hx;have hpl:pre.length=k:=by have:=congrArg List.length HP.out;simp at this;have:=HNN.out;omega
  obtain ⟨fn,tmps,assign,body,hy,hR⟩:=HY.out pre (k,x) w5 HJP.out (by rw [hpl];exact ⟨rfl,hx⟩) (by omega);have HRR:=Za hR;have HP2:=Za (show (pre++ [(k,x)]).map Prod.snd=all.take (k+1) by rw [List.map_append,HP.out,List.take_add_one,hx];rfl);have k1:(0:Int)<=(k:Int):=by omega
  have k2:(k:Int)<(N:Int):=by omega
  dsimp only at hy;clear hR hx hpl
  gi_wp2
  refine HRR.out.mono ?_;rintro e w6 ⟨rfl,hJ3,hk3⟩;have HJ3:=Za hJ3;have HK3:=Za (HK.out.trans hk3);clear hy hJ3 hk3 hcx
  gi_wp2
  go_roundw
  case rel=>exact ⟨k+1,pre++ [(k,x)],by omega,by go_num,HP2,HJ3,HK3⟩
  case measure=>simp [intOf];omega
 ·obtain rfl:k=N:=by omega
  have HE:=Za (show pre.map Prod.snd=all by rw [HP.out,List.take_of_length_le (by rw [HNN.out];exact Zv _)])
  gi_wp2
  go_end0
  exact ⟨⟨_,rfl⟩,pre,HE.out,by rw [<-HE.out,List.length_map],HJP.out⟩
theorem laid_seq (ahead b1 b2 n c : Nat) (hah : ahead = 0 \/ ahead = 4) (ex : Nat -> Prop) (A : Option Addr) (b : List Int) (w : World)
  (hb:Kd.C (Kd.int .u8) w A b.length b) (hn:b.length=n) (hnc:n<=c) (hnn:n<=100000) (hB1:w.heap[b1]?=some (.cells #[.int .i64 (ahead:Int)] 3 (0,0))) (hB2:w.heap[b2]?=some (.cells #[.slice A n c] 34 (0,0))) (hex: ∀k,ex k->k<w.heap.size):
  SeqN Fence.wide 7 Tryz.prog 134 #[.pointer (some ⟨b2,0,none⟩), .pointer (some ⟨b1,0,none⟩)] (fun x:Nat×Int=> #[.int .i64 (x.1:Int), .int .u8 x.2]) (ItN (laidL ahead b)) (KpC ex) (fun xs=>xs.map Prod.snd=laidL ahead b/\xs.length=(laidL ahead b).length) (laidL ahead b).length w:=by
 intro l J W hW hJ hY hJ0;have h1:=aLz hB1 hW;have h2:=aLz hB2 hW;have h3:=Kd.aMz hb hW;have h4: ∀k,ex k->k<W.heap.size:=fun k hk=>Zp (hex k hk) hW.size
 rcases hah with rfl|rfl
 ·refine (laid1_in0 l b1 b2 n c ex A b W J h3 hn hnc hnn h1 h2 h4 hJ hY hJ0).mono ?_;rintro e W' ⟨hv,xs,q1,q2,q3⟩;exact ⟨hv,xs,⟨q1,q2⟩,q3⟩
 ·refine (laid1_in4 l b1 b2 n c ex A b W J h3 hn hnc hnn h1 h2 h4 hJ hY hJ0).mono ?_;rintro e W' ⟨hv,xs,q1,q2,q3⟩;exact ⟨hv,xs,⟨q1,q2⟩,q3⟩
end Go.Proofs.Xc
end
section
namespace Go.Proofs.Xc
open Go.RowKit Go.Proofs.Pw Go.Proofs.Pl Go.Proofs.Pm
attribute [local go_sem] baz bbz bmz bnz a2z a3z bcz bdz
def regOnly (K:Act->World->Prop):Exit->Act->World->Prop
 | .normal,a,w=>K a w
 |_,_,_=>False
theorem regOnly_normal {K:Act->World->Prop} {a:Act} {w:World} (h:K a w):regOnly K .normal a w:=h
theorem regOnly_ {P:Program} {c:Code} {Q:Exit->Act->World->Prop} {a:Act} {w:World} (h:c.wp P (regOnly (Q .normal)) a w):c.wp P Q a w:=
 wp_mono h fun e a w h=>by
  cases e with
  |normal=>exact h
  |_=>exact h.elim
theorem S_new {e t : Nat} {k : IntKind} {W : World} {base o n cap : Nat} {ok : Nat -> Prop} {rows : List (List Int)} (h : Kd.S (dM e k) t W base ok (.slice (some ⟨o, 0, none⟩) n cap) rows) (hb : base <= W.heap.size) (hok : ∀ q, W.heap.size <= q -> ok q) (i : Nat) (hi : i < n) (xs : List Int) (hl : xs.length <= 1000000) :
  Kd.S (dM e k) t (((W.alloc (.cells (nums k xs).toArray e)).setCell ⟨o,i,none⟩ (.slice (some ⟨W.heap.size,0,none⟩) xs.length xs.length))) base ok (.slice (some ⟨o,0,none⟩) n cap) (rows.set i xs):=by
 have hlt:o<W.heap.size:=Kd.S_lt h o (by simp [Value.ownBlock]);have h1:Kd.S (dM e k) t (W.alloc (.cells (nums k xs).toArray e)) base (fun q=>ok q/\ ¬(q=W.heap.size)) (.slice (some ⟨o,0,none⟩) n cap) rows:=Kd.eez (Kd.cGz (Kd.bEz h) (fun q hq=>⟨hq.1,by have:=hq.2.2.1;omega⟩)) _;obtain ⟨oki,c,hcl,hM,hcc,hfr,hoki,hH⟩:=Kd.S_elem h1 ([] :List Int) (i:Int) (by omega) (by omega);obtain ⟨u,rfl,hu⟩:=hM;have hn0:(W.alloc (.cells (nums k xs).toArray e)).heap[W.heap.size]?=some (.cells (nums k xs).toArray e (0,0)):=heap_alloc_new _ _
 have hR:(Kd.int k).R e (W.alloc (.cells (nums k xs).toArray e)) base (fun q=>q=W.heap.size) (.slice (some ⟨W.heap.size,0,none⟩) xs.length xs.length) xs:=by
  have h2:(Kd.int k).R e (W.alloc (.cells (nums k xs).toArray e)) base (fun _=>True) (.slice (some ⟨W.heap.size,0,none⟩) xs.length xs.length) xs:=
   cXz ⟨by rw [nums_length,Nat.mul_one], .inr ⟨_,xs.length,_,rfl,hb,hn0,Zv _,by unfold maxLen;omega,by simp [nums_length],by simp;rw [List.take_of_length_le (by rw [nums_length];exact Zv _)]⟩⟩
  exact Kd.aQz (Kd.b3z rfl h2) (fun q hq=>by simpa [Value.ownBlock] using hq)
 have h3:=(Kd.S_seg hH (by omega) (by omega) (seg:= [.slice (some ⟨W.heap.size,0,none⟩) xs.length xs.length]) (j:=0) (Zv _) (x':=xs) (okp:=fun q=>q=W.heap.size) ⟨_,rfl,hR⟩ (fun q hq=> .inr hq) (fun q hq=>⟨hok q (by omega),by omega⟩)).1;rw [Zu,show (dM e k).sz=1 from rfl,Nat.mul_one,Nat.add_zero] at h3;exact h3
theorem S_put2 {e t : Nat} {k : IntKind} {W : World} {base o n cap : Nat} {ok : Nat -> Prop} {rows : List (List Int)} (h : Kd.S (dM e k) t W base ok (.slice (some ⟨o, 0, none⟩) n cap) rows) (i j : Nat) (row : List Int) (hr : rows[i]? = some row) (hj : j < row.length) (x : Int) :
  ∃g c y,W.cell? ⟨o,i,none⟩=some (.slice (some ⟨g,0,none⟩) row.length c)/\W.cell? ⟨g,j,none⟩=some (.int k y)/\W.frozen? ⟨g,j,none⟩=false/\ok g/\g≠o/\Kd.S (dM e k) t (W.setCell ⟨g,j,none⟩ (.int k x)) base ok (.slice (some ⟨o,0,none⟩) n cap) (rows.set i (row.set j x)):=by
 have hil:=(Zk hr).1;have hn:=(Kd.eMz h).1;obtain ⟨oki,c,hcl,hM,hcc,hoki,hback⟩:=Kd.S_borrow h ([] :List Int) (i:Int) (by omega) (by omega);rw [Zu,Zm,hr] at hM;obtain ⟨u,rfl,hu⟩:=hM;have hu':(Kd.int k).R e W base oki u row:=hu;obtain ⟨g,cg,rfl, -, -, -⟩:=Kd.dBz hu' (by omega);have hc0:=hcc 0 _ rfl;rw [Zu,show (dM e k).sz=1 from rfl,Nat.mul_one,Nat.add_zero] at hc0
 have e1:(⟨o,0,none⟩:Addr).add i=⟨o,i,none⟩:=by
  unfold Addr.add;split<;>simp_all
 rw [e1] at hc0;obtain ⟨hcell,hfroz⟩:=Kd.R_cell (0:Int) hu' (j:Int) (by omega) (by omega);rw [Zu] at hcell hfroz;have hgo:oki g:=hu'.1 g (by simp [Value.ownBlock]);obtain ⟨hp1,hp2⟩:=Kd.R_put hu' (j:Int) x;rw [Zu] at hp1 hp2
 have hS:=hback (x':=row.set j x) hp2 (fun q hq=>by
  injection hq with hq
  subst hq;exact hgo) (show (dM e k).M _ _ _ (row.set j x) [.slice (some ⟨g,0,none⟩) row.length cg] from ⟨_,rfl,hp1⟩)
 rw [Zu] at hS;exact ⟨g,cg,_,hc0,hcell,hfroz,(hoki g hgo).1,fun e=>(hoki g hgo).2 (by simp [Value.ownBlock,e]),hS⟩
theorem S_keepK {k:IntKind} {X Y:World} {base:Nat} {ok:Nat->Prop} {v:Value} {xs:List (List Int)} {e t:Nat} (h:Kd.S (dM e k) t X base ok v xs) (hm: ∀(q:Nat) (o:Obj),X.heap[q]?=some o->o.isCells=true->Y.heap[q]?=X.heap[q]?):Kd.S (dM e k) t Y base ok v xs:=by
 refine Kd.cGz (Kd.S_move (Kd.bEz h) (fun q hq=> ?_)) (fun q hq=>hq.1);obtain ⟨-, -,hlt,z, -,cells,hc⟩:=hq;exact hm q _ hc rfl
theorem make_bytes (n:Nat) (hn:n<=1000000) (W:World):(Instr.makeSlice 34 (.int .i64 (n:Int)) (.int .i64 (n:Int))).run Tryz.prog W= .ok (.slice (some ⟨W.heap.size,0,none⟩) n n) (W.alloc (.cells (nums .u8 (List.replicate n 0)).toArray 5)):=by
 have hinfo:(Tryz.prog.info? 5).map (fun i=>(i.zero,i.size,i.bytes))=some (some (.int .u8 0),1,1):=by kernel_rfl
 obtain ⟨i,hi,he⟩:=Option.map_eq_some_iff.1 hinfo;injection he with hz he
 injection he with hs hb
 have h:=run_make (P:=Tryz.prog) W 34 5 i (.int .u8 0) Tryz.underlying34 hi hz .i64 .i64 n n (by omega) (by omega) (by rw [hb];omega) (by omega);rw [hs,Zu,Nat.mul_one] at h;rw [h]
 have:madeCells (Value.int .u8 0).cells n=(nums .u8 (List.replicate n 0)).toArray:=by
  apply Array.ext'
  simp [madeCells,nums,Value.cells];apply List.ext_getElem
  ·simp
  ·intro i h1 h2;simp [Nat.mod_one]
 rw [this]
def madeTo (K size i:Nat):List (List Int):=List.replicate i (List.replicate size 0)++List.replicate (K - i) []
theorem madeTo_step (K size i:Nat) (hi:i<K):(madeTo K size i).set i (List.replicate size 0)=madeTo K size (i+1):=by
 unfold madeTo;rw [List.set_append_right _ _ (by simp),List.length_replicate,Nat.sub_self,show K - i=(K - (i+1))+1 by omega,List.replicate_succ,Zh,List.replicate_succ' (n:=i),List.append_assoc];rfl
theorem madeTo_zero (K size:Nat):madeTo K size 0=List.replicate K [] :=by simp [madeTo]
theorem madeTo_full (K size:Nat):madeTo K size K=List.replicate K (List.replicate size 0):=by simp [madeTo]
theorem S_cell {e t:Nat} {k:IntKind} {W:World} {base o n cap:Nat} {ok:Nat->Prop} {rows:List (List Int)} (h:Kd.S (dM e k) t W base ok (.slice (some ⟨o,0,none⟩) n cap) rows) (i:Nat) (hi:i<n): ∃v,W.cell? ⟨o,i,none⟩=some v/\W.frozen? ⟨o,i,none⟩=false:=by
 obtain ⟨oki,c,hcl,hM,hcc,hfr,hoki,hH⟩:=Kd.S_elem h ([] :List Int) (i:Int) (by omega) (by omega);obtain ⟨u,rfl,hu⟩:=hM;have h0:=hcc 0 _ rfl;have h1:=hfr 0;rw [Zu,show (dM e k).sz=1 from rfl,Nat.mul_one,Nat.add_zero] at h0 h1;exact ⟨_,h0,h1⟩
end Go.Proofs.Xc
end
