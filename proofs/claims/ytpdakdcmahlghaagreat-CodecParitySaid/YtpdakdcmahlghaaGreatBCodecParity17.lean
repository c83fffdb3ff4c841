-- Joined texts of this work (wip/tools/bundle.py).
import Derived.Test.YtpdakdcmahlghaaGreatBCodecParity16
set_option maxHeartbeats 8000000
set_option maxRecDepth 100000
set_option linter.unusedVariables false
set_option linter.unusedSimpArgs false
section
namespace Go.Proofs.Xc
open Go.RowKit Go.Proofs.Pw Go.Proofs.Pl Go.Proofs.Pm
attribute [local go_sem] bfz bgz boz bpz a5z a6z bhz biz
def evB (wb:Int) (b:List Int):Bool:=b.length % wN wb==0
def dotB (K:Nat) (wb:Int) (c:List Int) (rows:List (List Int)):Option (List Int×Int):=if rows.all (evB wb)=true then aHz.f K (List.zipWith (mulB wb) c rows) else some ([],1)
theorem S_joinK {k : IntKind} {wq w2 : World} {g B e t gt : Nat} {gcs : Array Value} {u uv : Value} {xs : List (List Int)} {R : List Int} (HO : Kd.S (dM e k) t wq B (fun _ => True) u xs) (hg : wq.heap[g]? = some (.cells gcs gt (0, 0))) (ht : ∀ q, q ∈ t :: (dM e k).E -> q ≠ gt) (hb : BB wq w2 g) (hR : (Kd.int k).R e w2 wq.heap.size (fun _ => True) uv R) (hB : B <= wq.heap.size) :
    Kd.S (dM e k) t w2 B (fun k'=>True/\ ¬wq.heap.size<=k') u xs/\(dM e k).M w2 B (fun k'=>wq.heap.size<=k') R [uv] /\(∀k',wq.heap.size<=k'->True/\some k'≠u.ownBlock):=
  ⟨Kd.cBz (Kd.S_move (Kd.bLz (Kd.dKz HO hg ht)) (fun q hq=>hb.block q hq.2.2.1 hq.1.2)) (fun q hq=>⟨trivial,by have:=hq.2.2.1;omega⟩),
   ⟨_,rfl,Kd.bKz (Kd.aQz (Kd.b9z hR) (fun q hq=>hq.2.1)) hB⟩,
   fun q hq=>⟨trivial,fun e=>by have:=Kd.R_lt (Kd.S_R HO) q e.symm;omega⟩⟩
theorem BB.then_below {W a b:World} {g:Nat} (h:BB W a g) (k:Below W.heap.size a b):BB W b g:=
 ⟨k.os.trans h.os,k.tape.trans h.tape,k.output.trans h.output,Zt h.size k.size,fun i hi hg=>(k.block i hi).trans (h.block i hi hg)⟩
theorem Fd.grown {W W1:World} {g:Nat} {wb p:Int} {S:Nat->Prop} {v:Value} {t:Nat} (h:Fd W g wb p S) (hg:W.grownBy W1 v.ownBlock) (ht: ∀k,v.ownBlock=some k-> ∃cells,W.heap[k]?=some (.cells cells t (0,0))) (h1:t≠172) (h2:t≠3):Fd W1 g wb p S:=by
 have key: ∀(k:Nat) (cs:Array Value) (q:Nat),q≠t->W.heap[k]?=some (.cells cs q (0,0))->W1.heap[k]?=some (.cells cs q (0,0)):=fun k cs q hq hk=>(hg.block k (a1z hk) (fun e=>by
  obtain ⟨c2,hc2⟩:=ht k e.symm;rw [hk] at hc2;injection hc2 with hc2
  injection hc2 with _ hc2
  exact hq hc2)).trans hk
 obtain ⟨n1,h|⟨e1,e2,a,b,ha,hb,hc,n2,n3⟩⟩:=h
 ·exact ⟨n1, .inl (key _ _ _ (Ne.symm h1) h)⟩
 ·exact ⟨n1, .inr ⟨e1,e2,a,b,key _ _ _ (Ne.symm h1) ha,key _ _ _ (Ne.symm h2) hb,key _ _ _ (Ne.symm h2) hc,n2,n3⟩⟩
theorem eTz {α β γ:Type} (f:α->β->γ) (a:List α) (b:List β) (k:Nat) (x:α) (y:β) (hx:a[k]?=some x) (hy:b[k]?=some y):List.zipWith f (a.take (k+1)) (b.take (k+1))=List.zipWith f (a.take k) (b.take k)++ [f x y] :=by
 have h1:=(Zk hx).1;have h2:=(Zk hy).1;rw [List.take_add_one,List.take_add_one,hx,hy,List.zipWith_append (by simp;omega)];rfl
theorem rDot.calls (g : Nat) (wb : Int) (S : Nat -> Prop) (C A : Option Addr) (cc ca K : Nat) (c : List Int) (rows : List (List Int)) (r1 : List Int) (r2 : Int) (W : World) (hw : wb = 8 \/ wb = 16) (hF : Fd W g wb (fpoly wb) S) (hS : ∀ k, S k -> k < W.heap.size)
  (hc:Kd.F (Kd.int .i64) W (NotG g) C c.length c) (hr:Kd.F (dM 5 .u8) W (NotG g) A rows.length rows) (hin: ∀x,x∈c->inF wb x=true) (hlen:c.length=rows.length) (h0:0<rows.length) (hsz: ∀r,r∈rows->r.length<=1000000) (hn:rows.length<=1000) (h:dotB K wb c rows=some (r1,r2)):
  Calls Tryz.prog 47 #[.pointer (some ⟨g,0,none⟩), .slice C c.length cc, .slice A rows.length ca] W fun e w'=> ∃v,e= .returned (.tuple #[v, .int .i64 r2])/\(Kd.int .u8).R 5 w' W.heap.size (fun _=>True) v r1/\Fd w' g wb (fpoly wb) S/\BB W w' g:=by
 have HF0:=Za hF;have HW:=Za hw;have HS:=Za hS;have HC:=Za hc;have HR:=Za hr;have HIN:=Za hin;have HSZ:=Za hsz;have HH:=Za h;obtain ⟨n,hnn⟩: ∃n,rows.length=n:=⟨_,rfl⟩;have HL1:=Za (hlen.trans hnn);have HL2:=Za hnn;rw [hlen] at HC|-;rw [hnn] at HC HR hn h0|-;have z1:((n:Int)==0)=false:=by simp;omega
 have z2:((n:Int) !=(n:Int))=false:=by simp
 clear hw hF hS hc hr hin hsz h hlen hnn;go_enter Tryz.func47,Tryz.ntmps47;go_wp2
 go_loopw [8,25] (fun v iv wr=> ∃k:Nat,k<=n/\iv= .int .i64 (k:Int)/\Aside0 (Kd.S (dM 5 .u8) 34 wr W.heap.size (fun _=>True) v (List.zipWith (mulB wb) (c.take k) (rows.take k)))/\Aside0 (BB W wr g)/\Aside0 (Fd wr g wb (fpoly wb) S)/\Aside0 ((rows.take k).all (evB wb)=true)) (fun _ iv _=>n - (intOf iv).toNat)
 case atStart=>exact ⟨0,Nat.zero_le _,rfl,⟨Kd.S_nil _ _ _ _ _⟩,⟨BB.refl _ _⟩,HF0,⟨rfl⟩⟩
 clear HF0 z1 z2;obtain ⟨w3,rfl⟩: ∃w3,w3=wr:=⟨_,rfl⟩;obtain ⟨k,hk,rfl,HO,HB,HF,HEV⟩:=hrel;by_cases hlt:k<n
 ·obtain ⟨x,hx⟩: ∃x,c[k]?=some x:=⟨_,Zf (by have:=HL1.out;omega)⟩;obtain ⟨b,hb⟩: ∃b,rows[k]?=some b:=⟨_,Zf (by have:=HL2.out;omega)⟩;obtain ⟨ad,A',c',rfl,hcb,hlb,hCb⟩:=b5z (Kd.F_now (F_bb (HL2.out.symm▸HR.out) HB.out)) k b hb;obtain ⟨cd,rfl,hcx⟩:=ckz (Kd.F_now (F_bb (HL1.out.symm▸HC.out) HB.out)) k x hx;have HCB:=Za hCb;have HI:=Za (HIN.out x (Zo hx));have HBL:=Za (HSZ.out b (Zo hb));have HZ:=Za (eTz (mulB wb) c rows k x b hx hb);have HEV1:=Za (show (rows.take (k+1)).all (evB wb)=((rows.take k).all (evB wb)&&evB wb b) by rw [List.take_add_one,hb];simp)
  have HALL:=Za (show evB wb b=false->rows.all (evB wb)=false from fun h=>by
   rw [List.all_eq_false]
   exact ⟨b,Zo hb,by rw [h];decide⟩)
  have HS3:=Za (show∀q,S q->q<w3.heap.size from fun q hq=>Zp (HS.out q hq) HB.out.size);have k1:(0:Int)<=(k:Int):=by omega
  have k2:(k:Int)<(n:Int):=by omega
  clear hx hb hlb hCb;by_cases hev:evB wb b=true
  ·have HMU:=Za (rMul.ok g wb x S A' c' b w3 HW.out HF.out HS3.out HCB.out HBL.out (by simpa [evB] using hev) HI.out);have HE2:=Za (show (rows.take (k+1)).all (evB wb)=true by rw [HEV1.out,HEV.out,hev];rfl);clear hev
   go_wp2_with fail
   refine HMU.out.mono ?_;rintro e w4 ⟨v4,rfl,q1,q2,q3⟩;obtain ⟨gcs,hgcs⟩:=Fd.cells HF.out;have hj:=S_joinK HO.out hgcs (by decide) q3 q1 HB.out.size;have HLZ:=Za (show (List.zipWith (mulB wb) (c.take k) (rows.take k)).length<=1000 by simp;omega);obtain ⟨va,vc,rfl⟩:=Kd.bcz q1;generalize List.zipWith (mulB wb) (c.take k) (rows.take k)=pre at HO hj HLZ HZ
   generalize (mulB wb x b).length=nm at *
   generalize mulB wb x b=R at hj HZ;have HS1:=Za hj.1;have HM1:=Za hj.2.1;have HOK:=Za hj.2.2;have HSW:=Za (show W.heap.size<=w4.heap.size from Zt HB.out.size q3.size);have HB4:=Za (HB.out.trans q3);have HF4:=Za q2;have HTY:=Za (Kd.bGz hj.1);clear q1 q2 q3 hj hgcs HMU HCB hcb hcx HO
   go_wp2_with ((with_reducible refine anz (b:= .append) (xs:= #[.tmp 43, .tmp 45]) rfl ?_);go_must (at_builtin;refine Kd.bRz (dM 5 .u8) (w0:=w4) W.heap.size rfl (.tmp 43) (.tmp 45) 24 34 (.slice none 0 0) 24 rfl Tryz.underlying24 kr_ rfl (by decide) (by decide) _ _ R [.slice va nm vc] (fun _=>True) (fun k'=>w3.heap.size<=k') rfl rfl HM1.out HOK.out (fun _ _=>trivial) HS1.out (Zw _ _) HSW.out ?aL ?_;(case aL=>have:=HLZ.out;omega));intro v2 w5 ho2 hb2 hg2 hat2;have HO5:=Za ho2;have HB5:=Za hb2;have HG5:=Za (show w4.grownBy w5 u8.ownBlock from hg2);clear ho2 hb2 hg2 hat2)
   go_roundw
   case rel=>exact ⟨k+1,by omega,by go_num,⟨by rw [HZ.out];exact HO5.out⟩,⟨HB4.out.then_below HB5.out⟩,⟨HF4.out.grown HG5.out HTY.out (by decide) (by decide)⟩,HE2⟩
   case measure=>simp [intOf];omega
  ·have hev':evB wb b=false:=by simpa using hev
   have HMU:=Za (rMul.badw g wb (fpoly wb) x S A' c' b w3 HW.out HF.out HBL.out (by simpa [evB] using hev'))
   have HRES:=Za (show r1= [] /\r2=1 by
    have h:=HH.out;unfold dotB at h;rw [Yb (by rw [HALL.out hev'];decide)] at h;simp only [Zx,Zy] at h
    exact ⟨h.1.symm,h.2.symm⟩)
   clear hev hev'
   go_wp2_with fail
   refine HMU.out.mono ?_;rintro e w4 ⟨rfl,m4,rfl⟩;go_wp2;go_ret2;refine ⟨.slice none 0 0,?_,?_,HF.out.drewN m4,HB.out.drewN m4⟩
   ·rw [HRES.out.2];rfl
   ·rw [HRES.out.1];exact Kd.R_nil _ _ _ _ _
 ·obtain rfl:k=n:=by omega
  have e1:c.take k=c:=List.take_of_length_le (by rw [HL1.out];exact Zv _);have e2:rows.take k=rows:=List.take_of_length_le (by rw [HL2.out];exact Zv _);rw [e1,e2] at HO;rw [e2] at HEV;have h:=HH.out;unfold dotB at h;rw [Ya HEV.out] at h;have HSUM:=Za h;generalize List.zipWith (mulB wb) c rows=pr at HO HSUM;obtain ⟨PA,pc,rfl,hpl,hpc⟩:=Kd.S_reads HO.out;have HPS:=Za (aHz.calls K PA pc pr r1 r2 w3 hpc hpl HSUM.out);clear h e1 e2 hpl hpc
  generalize pr.length=np at *
  go_wp2_with fail
  refine HPS.out.mono ?_;rintro e w4 ⟨v,rfl,s1,s2⟩;have R1:=Za (Kd.bKz s1 HB.out.size);have R2:=Za (HF.out.below s2);have R3:=Za (HB.out.trans (BB.of_below s2 g));clear s1 s2;go_wp2;go_ret2;exact ⟨_,rfl,R1.out,R2.out,R3.out⟩
def azz.l (K:Nat) (wb:Int) (data:List (List Int)):List (List Int)->List (List Int)->Option (List (List Int)×Int)
 | [],acc=>some (acc,0)
 |row::rs,acc=>(dotB K wb row data).bind fun t=>if t.2=0 then azz.l K wb data rs (acc++ [t.1]) else some ([],1)
def azz.small (l:List (List Int)):Bool:=decide (l.length<=1000)&&l.all (fun r=>decide (r.length<=1000000))
def azz.f (k:Nat) (a0_0 a0_1 a0_2:Int) (l1:List (List Int)):Option (List (List Int)×Int):=
 (aGz.f a0_0 a0_1 a0_2).bind fun b=>if b=true then (if (l1.length:Int)=a0_1 then (if azz.small l1=true then azz.l k (pbits a0_0) l1 (parM a0_0 a0_1.toNat a0_2.toNat) [] else none) else some ([],1)) else some ([],1)
theorem C_F {α:Type} {d:Kd α} (hd:Kd.Heap d) {W:World} {A:Option Addr} {n:Nat} {xs:List α} (h:d.C W A n xs):Kd.F d W (fun k=>k<W.heap.size) A n xs:=fun W' hW=>hd.C (fun k hk=>hW k hk hk) h
theorem codec_Parity1.calls (g bf bd : Nat) (wb : Int) (S : Nat -> Prop) (C A : Option Addr) (cc ca K : Nat) (c : List Int) (rows : List (List Int)) (r1 : List Int) (r2 : Int) (W : World) (hw : wb = 8 \/ wb = 16) (hF : Fd W g wb (fpoly wb) S) (hS : ∀ k, S k -> k < W.heap.size)
  (hbf:W.heap[bf]?=some (.cells #[.pointer (some ⟨g,0,none⟩)] 72 (0,0))) (hbd:W.heap[bd]?=some (.cells #[.slice A rows.length ca] 24 (0,0)))
  (hc:Kd.F (Kd.int .i64) W (NotG g) C c.length c) (hr:Kd.F (dM 5 .u8) W (NotG g) A rows.length rows) (hin: ∀x,x∈c->inF wb x=true) (hlen:c.length=rows.length) (h0:0<rows.length) (hsz: ∀r,r∈rows->r.length<=1000000) (hn:rows.length<=1000) (h:dotB K wb c rows=some (r1,r2)):
  Calls Tryz.prog 46 #[.slice C c.length cc, .pointer (some ⟨bf,0,none⟩), .pointer (some ⟨bd,0,none⟩)] W fun e w'=> ∃v,e= .returned (.tuple #[v, .int .i64 r2])/\(Kd.int .u8).R 5 w' W.heap.size (fun _=>True) v r1/\Fd w' g wb (fpoly wb) S/\BB W w' g:=by
 have HD:=Za (rDot.calls g wb S C A cc ca K c rows r1 r2 W hw hF hS hc hr hin hlen h0 hsz hn h);have c1:W.cell? ⟨bf,0,none⟩=some (.pointer (some ⟨g,0,none⟩)):=(abz hbf 0).trans rfl;have c2:W.cell? ⟨bd,0,none⟩=some (.slice A rows.length ca):=(abz hbd 0).trans rfl;generalize rows.length=n at HD c2;generalize c.length=m at HD|-;clear hw hF hS hbf hbd hc hr hin hlen h0 hsz hn h;go_enter Tryz.func46,Tryz.ntmps46
 go_wp2_with fail
 refine HD.out.mono ?_;rintro e w1 ⟨v,rfl,q1,q2,q3⟩;have Q1:=Za q1;have Q2:=Za q2;have Q3:=Za q3;clear q1 q2 q3;go_wp2;go_ret2;exact ⟨_,rfl,Q1.out,Q2.out,Q3.out⟩
theorem azz.nomay (p k m : Int) (A : Option Addr) (c : Nat) (l : List (List Int)) (W : World) (h : aGz.f p k m = some false) :
  Calls Tryz.prog 19 #[.agg #[.int .i64 p, .int .i64 k, .int .i64 m], .slice A l.length c] W fun e w'=>e= .returned (.tuple #[.slice none 0 0, .int .i64 1])/\Below W.heap.size W w':=by
 have HP:=Za (fun w=>ddz.no p k m w h);have hu:=Tryz.underlying23;generalize l.length=n;clear h;go_enter Tryz.func19,Tryz.ntmps19
 go_wp2_with fail
 refine (HP.out _).mono ?_;rintro e w1 ⟨rfl,hB⟩;have HB:=Za (show Below W.heap.size W w1 from (amz (amz (Zw _ _) _) _).trans (hB.mono (by simp;omega)));clear hB;go_wp2;go_ret2;exact ⟨rfl,HB.out⟩
theorem azz.nolen (p k m : Int) (A : Option Addr) (c : Nat) (l : List (List Int)) (W : World) (h : aGz.f p k m = some true) (hl : (l.length : Int) ≠ k) :
  Calls Tryz.prog 19 #[.agg #[.int .i64 p, .int .i64 k, .int .i64 m], .slice A l.length c] W fun e w'=>e= .returned (.tuple #[.slice none 0 0, .int .i64 1])/\Below W.heap.size W w':=by
 have HP:=Za (fun w=>ddz.ok p k m w h);have hu:=Tryz.underlying23;generalize l.length=n at hl|-;generalize parM p k.toNat m.toNat=M at HP;have hne:((n:Int) !=k)=true:=by simpa using hl
 have hb1:=heap_alloc_new W (.cells #[.int .i64 p, .int .i64 k, .int .i64 m] 23);have hb2:=heap_alloc_new (W.alloc (.cells #[.int .i64 p, .int .i64 k, .int .i64 m] 23)) (.cells #[.slice A n c] 24);have hb1':((W.alloc (.cells #[.int .i64 p, .int .i64 k, .int .i64 m] 23)).alloc (.cells #[.slice A n c] 24)).heap[W.heap.size]?=some (.cells #[.int .i64 p, .int .i64 k, .int .i64 m] 23 (0,0)):=aJz hb1 (amz (Zw _ _) _);have HX1:=Za hb1';have HX2:=Za hb2;have HB:=Za (show Below W.heap.size W ((W.alloc (.cells #[.int .i64 p, .int .i64 k, .int .i64 m] 23)).alloc (.cells #[.slice A n c] 24)) from amz (amz (Zw _ _) _) _);clear h hl hb1 hb2 hb1';go_enter Tryz.func19,Tryz.ntmps19
 go_wp2_with fail
 generalize (W.alloc (.cells #[.int .i64 p, .int .i64 k, .int .i64 m] 23)).alloc (.cells #[.slice A n c] 24)=w1 at HX1 HX2 HB|-;refine (HP.out w1).mono ?_;rintro e w2 ⟨B,bc,rfl, -, -,hB⟩;have HB2:=Za (HB.out.trans (hB.mono HB.out.size));have c1:w2.cell? ⟨W.heap.size,1,none⟩=some (.int .i64 k):=(abz (aJz HX1.out hB) 1).trans rfl
 have c2:w2.cell? ⟨W.heap.size+1,0,none⟩=some (.slice A n c):=by
  have:=(abz (aJz HX2.out hB) 0);simp at this;exact this
 clear hB;go_wp2;go_ret2;exact ⟨rfl,HB2.out⟩
theorem azz.go (K : Nat) (p k m : Int) (A : Option Addr) (c : Nat) (l : List (List Int)) (r1 : List (List Int)) (r2 : Int) (W : World) (h : aGz.f p k m = some true) (hl : (l.length : Int) = k) (hr : Kd.C (dM 5 .u8) W A l.length l) (hsm : azz.small l = true)
  (hL:azz.l K (pbits p) l (parM p k.toNat m.toNat) [] =some (r1,r2)):
  Calls Tryz.prog 19 #[.agg #[.int .i64 p, .int .i64 k, .int .i64 m], .slice A l.length c] W fun e w'=> ∃v,e= .returned (.tuple #[v, .int .i64 r2])/\Kd.S (dM 5 .u8) 34 w' W.heap.size (fun _=>True) v r1/\Below W.heap.size W w':=by
 obtain ⟨p1,p2,k1,k2,m1,m2⟩:=cJz h;have HP:=Za (fun w=>ddz.ok p k m w h);have HFD:=Za (eQz.calls p ⟨p1,p2⟩);have HPB:=Za (egz p);have hgd:=dYz p k.toNat m.toNat (by omega) (by omega) (by omega) (by omega)
 have HSM:=Za (show l.length<=1000/\ ∀r,r∈l->r.length<=1000000 by
  simp only [azz.small,Bool.and_eq_true,decide_eq_true_eq,List.all_eq_true] at hsm
  exact hsm)
 have hu:=Tryz.underlying23;obtain ⟨n,hn⟩: ∃n,l.length=n:=⟨_,rfl⟩;have HLN:=Za hn;obtain rfl:k=(n:Int):=by omega
 simp only [Zu] at HP hgd hL;obtain ⟨mm,hmm⟩: ∃mm,m.toNat=mm:=⟨_,rfl⟩;rw [hmm] at HP hgd hL;have mm4:mm<=4:=by omega
 have HGD:=Za hgd;have HL:=Za hL;have HR:=Za (C_F (Kd.heap_slice _ (Kd.heap_int _)) hr);rw [hn] at HR|-;generalize parM p n mm=M at HP HGD HL;generalize pbits p=wb at HFD HPB HL HGD;have hself:((n:Int) !=(n:Int))=false:=by simp
 have n1:1<=n:=by omega
 have n2:n<=8:=by omega
 have HW:=Za (show W.heap.size=W.heap.size from rfl);have hb1:=heap_alloc_new W (.cells #[.int .i64 p, .int .i64 (n:Int), .int .i64 m] 23);have hb2:=heap_alloc_new (W.alloc (.cells #[.int .i64 p, .int .i64 (n:Int), .int .i64 m] 23)) (.cells #[.slice A n c] 24);have hb1':((W.alloc (.cells #[.int .i64 p, .int .i64 (n:Int), .int .i64 m] 23)).alloc (.cells #[.slice A n c] 24)).heap[W.heap.size]?=some (.cells #[.int .i64 p, .int .i64 (n:Int), .int .i64 m] 23 (0,0)):=aJz hb1 (amz (Zw _ _) _);have HX1:=Za hb1';have HX2:=Za (show ((W.alloc (.cells #[.int .i64 p, .int .i64 (n:Int), .int .i64 m] 23)).alloc (.cells #[.slice A n c] 24)).heap[W.heap.size+1]?=some (.cells #[.slice A n c] 24 (0,0)) by simpa using hb2);have HB:=Za (show Below W.heap.size W ((W.alloc (.cells #[.int .i64 p, .int .i64 (n:Int), .int .i64 m] 23)).alloc (.cells #[.slice A n c] 24)) from amz (amz (Zw _ _) _) _);clear h hl hb1 hb2 hb1' hgd hL hr hn p1 p2 k1 k2 hmm hsm
 go_enter Tryz.func19,Tryz.ntmps19
 go_wp2_with fail
 generalize (W.alloc (.cells #[.int .i64 p, .int .i64 (n:Int), .int .i64 m] 23)).alloc (.cells #[.slice A n c] 24)=w1 at HX1 HX2 HB|-;refine (HP.out w1).mono ?_;rintro e w2 ⟨B,bc,rfl, -,hC2,hB⟩;have HB2:=Za (HB.out.trans (hB.mono HB.out.size));have HY1:=Za (aJz HX1.out hB);have HY2:=Za (aJz HX2.out hB);have HM2:=Za (Kd.cCz (Kd.F_bound hC2) (fun q hq=>hq.2));have c0:w2.cell? ⟨W.heap.size,0,none⟩=some (.int .i64 p):=(abz HY1.out 0).trans rfl;have c1:w2.cell? ⟨W.heap.size,1,none⟩=some (.int .i64 (n:Int)):=(abz HY1.out 1).trans rfl;have c2:w2.cell? ⟨W.heap.size+1,0,none⟩=some (.slice A n c):=(abz HY2.out 0).trans rfl;have HML:=Za (show M.length=mm from HGD.out.2);clear hB hC2 HP HX1 HX2 HB;have hmf: ∀(fn:Fn) (first cap:Array Value) (w:World),(Instr.makeFunc fn first cap).run Tryz.prog w= .ok (.func fn first cap) w:=fun _ _ _ _=>rfl
 go_wp2_with fail
 refine (HFD.out w2).mono ?_;rintro e w3 ⟨g,rfl,q1,q2,q3⟩;have HB3:=Za (HB2.out.trans (q3.mono HB2.out.size));have HZ2:=Za (aJz HY2.out q3);have HFR:=Za (q1.fd (fun _=>False) (fun h=>h));have HM3:=Za (show Kd.F (dM 3 .i64) w3 (NotG g) B mm M from Kd.cCz (Kd.cQz HM2.out q3) (fun q hq=>by show q≠g;omega));have HD3:=Za (show Kd.F (dM 5 .u8) w3 (NotG g) A n l from Kd.cCz (Kd.F_step HR.out (fun q hq _=>HB3.out.block q hq)) (fun q hq=>by show q≠g;have:=HB2.out.size;omega));have HG3:=Za (show W.heap.size<=g from Zt HB2.out.size q2);have HGN:=Za (show W.heap.size+1≠g by have:=a1z HY2.out;omega);clear q1 q2 q3 c0 c1 c2 HM2 HR HY1 HY2 HB2 HFD;go_wp2;obtain ⟨bf,hbf⟩: ∃bf,bf=w3.heap.size:=⟨_,rfl⟩;obtain ⟨bd,hbd⟩: ∃bd,bd=W.heap.size+1:=⟨_,rfl⟩;have HT:=amz (Zw w3.heap.size w3) (.cells #[.pointer (some ⟨g,0,none⟩)] 72);have HBF:=Za (show (w3.alloc (.cells #[.pointer (some ⟨g,0,none⟩)] 72)).heap[bf]?=some (.cells #[.pointer (some ⟨g,0,none⟩)] 72 (0,0)) by rw [hbf];exact heap_alloc_new _ _)
 have HBD:=Za (show (w3.alloc (.cells #[.pointer (some ⟨g,0,none⟩)] 72)).heap[bd]?=some (.cells #[.slice A n c] 24 (0,0)) by rw [hbd];exact aJz HZ2.out HT);have HB5:=Za (amz HB3.out (.cells #[.pointer (some ⟨g,0,none⟩)] 72));have HF5:=Za (HFR.out.alloc (.cells #[.pointer (some ⟨g,0,none⟩)] 72));have HM5:=Za (Kd.F_alloc HM3.out (.cells #[.pointer (some ⟨g,0,none⟩)] 72));have HD5:=Za (Kd.F_alloc HD3.out (.cells #[.pointer (some ⟨g,0,none⟩)] 72));have HN1:=Za (show bf≠g by have:=HFR.out.lt;omega);have HN2:=Za (show bd≠g by rw [hbd];exact HGN.out);rw [<-hbf, <-hbd];clear HT hbf hbd HB3 HZ2 HFR HM3 HD3 HGN;generalize w3.alloc (.cells #[.pointer (some ⟨g,0,none⟩)] 72)=w5 at HBF HBD HB5 HF5 HM5 HD5|-
 go_loopw [10,35] (fun v iv wr=> ∃(k:Nat) (acc:List (List Int)),k<=mm/\iv= .int .i64 (k:Int)/\Aside0 (Kd.S (dM 5 .u8) 34 wr w5.heap.size (fun _=>True) v acc)/\Aside0 (BB w5 wr g)/\Aside0 (Fd wr g wb (fpoly wb) (fun _=>False))/\Aside0 (azz.l K wb l (M.drop k) acc=some (r1,r2))/\acc.length<=k) (fun _ iv _=>mm - (intOf iv).toNat)
 case atStart=>exact ⟨0, [],Nat.zero_le _,rfl,⟨Kd.S_nil _ _ _ _ _⟩,⟨BB.refl _ _⟩,HF5,HL,Nat.zero_le _⟩
 clear HF5 HL;obtain ⟨w6,rfl⟩: ∃w6,w6=wr:=⟨_,rfl⟩;obtain ⟨k,acc,hk,rfl,HO,HB,HF,HL,hacc⟩:=hrel;by_cases hlt:k<mm
 ·obtain ⟨row,hrow⟩: ∃x,M[k]?=some x:=⟨_,Zf (by have:=HML.out;omega)⟩
  have hdr:M.drop k=row::M.drop (k+1):=by
   obtain ⟨h1,h2⟩:=Zk hrow;rw [List.drop_eq_getElem_cons h1,h2]
  have hl:=HL.out;rw [hdr,azz.l] at hl;obtain ⟨⟨t1,t2⟩,hd,hl2⟩:=Option.bind_eq_some_iff.1 hl;have hgr:=HGD.out.1 row (Zo hrow);have HRL:=Za hgr.1;have hFM:=F_bb HM5.out HB.out;rw [<-HML.out] at hFM;obtain ⟨ad,A',c',rfl,hcr,hlr, -⟩:=b5z (Kd.F_now hFM) k row hrow;obtain ⟨A2,c2,hcr2,hlr2,hFr⟩:=row_atF hFM k row hrow
  obtain ⟨rfl,rfl⟩:A'=A2/\c'=c2:=by
   rw [hcr] at hcr2;injection hcr2 with e
   injection e with e1 e2 e3
   exact ⟨e1,e3⟩
  have HDC:=Za (codec_Parity1.calls g bf bd wb (fun _=>False) A' A c' c K row l t1 t2 w6 HPB.out HF.out (fun _ h=>h.elim) ((HB.out.block bf (a1z HBF.out) HN1.out).trans HBF.out) (by rw [HLN.out];exact (HB.out.block bd (a1z HBD.out) HN2.out).trans HBD.out) hFr (by rw [HLN.out];exact F_bb HD5.out HB.out) (fun x hx=>by
   have:=hgr.2 x hx
   simp [inF,this]) (by rw [HRL.out,HLN.out]) (by rw [HLN.out];omega) HSM.out.2 HSM.out.1 hd)
  have HL2:=Za hl2;rw [HRL.out] at HDC hcr;have k1:(0:Int)<=(k:Int):=by omega
  have k2:(k:Int)<(mm:Int):=by omega
  clear hrow hdr hl hl2 hd hgr hFM hlr hcr2 hlr2 hFr
  go_wp2_with fail
  refine HDC.out.mono ?_;rintro e w7 ⟨v7,rfl,q1,q2,q3⟩;by_cases ht2:t2=0
  ·subst ht2;have HL3:=HL2.out;rw [Ya rfl] at HL3;have HL4:=Za HL3;obtain ⟨gcs,hgcs⟩:=Fd.cells HF.out;have hj:=S_joinK HO.out hgcs (by decide) q3 q1 HB.out.size;obtain ⟨va,vc,rfl⟩:=Kd.bcz q1
   generalize t1.length=nm at *
   have HS1:=Za hj.1;have HM1:=Za hj.2.1;have HOK:=Za hj.2.2;have HSW:=Za (show w5.heap.size<=w7.heap.size from Zt HB.out.size q3.size);have HB7:=Za (HB.out.trans q3);have HF7:=Za q2;have HTY:=Za (Kd.bGz hj.1);have hal:acc.length<=100:=by omega
   clear q1 q2 q3 hj hgcs HDC hcr HO HL3 HL2;have HAL:=Za hal;have HAC:=Za hacc;clear hal hacc
   go_wp2_with ((with_reducible refine anz (b:= .append) (xs:= #[.tmp 47, .tmp 49]) rfl ?_);go_must (at_builtin;refine Kd.bRz (dM 5 .u8) (w0:=w7) w5.heap.size rfl (.tmp 47) (.tmp 49) 24 34 (.slice none 0 0) 24 rfl Tryz.underlying24 kr_ rfl (by decide) (by decide) _ _ t1 [.slice va nm vc] (fun _=>True) (fun k'=>w6.heap.size<=k') rfl rfl HM1.out HOK.out (fun _ _=>trivial) HS1.out (Zw _ _) HSW.out ?aL ?_;(case aL=>have:=HAL.out;omega));intro v2 w8 ho2 hb2 hg2 hat2;have HO8:=Za ho2;have HB8:=Za hb2;have HG8:=Za (show w7.grownBy w8 u10.ownBlock from hg2);clear ho2 hb2 hg2 hat2)
   go_roundw
   case rel=>exact ⟨k+1,acc++ [t1],by omega,by go_num,HO8,⟨HB7.out.then_below HB8.out⟩,⟨HF7.out.grown HG8.out HTY.out (by decide) (by decide)⟩,HL4,by have:=HAC.out;simp;omega⟩
   case measure=>simp [intOf];omega
  ·have hb2:(t2 !=0)=true:=by simpa using ht2
   have HRES:=Za (show r1= [] /\r2=1 by
    have h:=HL2.out;rw [Yb ht2] at h;simp only [Zx,Zy] at h
    exact ⟨h.1.symm,h.2.symm⟩)
   have HB7:=Za (HB.out.trans q3);clear q1 q2 q3 ht2 HDC hcr;go_wp2;go_ret2;refine ⟨.slice none 0 0,?_,?_,HB7.out.below HB5.out HG3.out⟩
   ·rw [HRES.out.2];rfl
   ·rw [HRES.out.1];exact Kd.S_nil _ _ _ _ _
 ·obtain rfl:k=mm:=by omega
  have h:=HL.out;rw [List.drop_of_length_le (by rw [HML.out];exact Zv _),azz.l] at h;simp only [Zx,Zy] at h;obtain ⟨rfl,rfl⟩:=h;go_wp2;go_ret2;exact ⟨_,rfl,Kd.cwz HO.out HB5.out.size,HB.out.below HB5.out HG3.out⟩
theorem azz.calls (k:Nat) (a0_0:Int) (a0_1:Int) (a0_2:Int) (A1:Option Addr) (c1:Nat) (l1:List (List Int)) (r1:List (List Int)) (r2:Int) (w:World) (hr1:Kd.C (Kd.slice 5 (Kd.int .u8)) w A1 l1.length l1) (hc1:l1.length<=c1) (h:azz.f k a0_0 a0_1 a0_2 l1=some (r1,r2)):
 Calls Tryz.prog 19 #[.agg #[.int .i64 a0_0, .int .i64 a0_1, .int .i64 a0_2], .slice A1 l1.length c1] w fun e w'=> ∃v0_:Value,e= .returned (.tuple #[v0_, .int .i64 r2])/\Kd.S (Kd.slice 5 (Kd.int .u8)) 34 w' w.heap.size (fun _=>True) v0_ r1/\Below w.heap.size w w':=by
 unfold azz.f at h;obtain ⟨b,hb⟩:=ejz a0_0 a0_1 a0_2;rw [hb] at h;simp only [Zl] at h
 have bad: ∀(hh:some (([] :List (List Int)),(1:Int))=some (r1,r2)) (hc:Calls Tryz.prog 19 #[.agg #[.int .i64 a0_0, .int .i64 a0_1, .int .i64 a0_2], .slice A1 l1.length c1] w fun e w'=>e= .returned (.tuple #[.slice none 0 0, .int .i64 1])/\Below w.heap.size w w'),Calls Tryz.prog 19 #[.agg #[.int .i64 a0_0, .int .i64 a0_1, .int .i64 a0_2], .slice A1 l1.length c1] w fun e w'=> ∃v0_:Value,e= .returned (.tuple #[v0_, .int .i64 r2])/\Kd.S (Kd.slice 5 (Kd.int .u8)) 34 w' w.heap.size (fun _=>True) v0_ r1/\Below w.heap.size w w':=by
  intro hh hc;simp only [Zx,Zy] at hh;obtain ⟨rfl,rfl⟩:=hh;refine hc.mono ?_;rintro e w' ⟨rfl,hB⟩;exact ⟨_,rfl,Kd.S_nil _ _ _ _ _,hB⟩
 cases b with
 |false=>exact bad (by simpa using h) (azz.nomay a0_0 a0_1 a0_2 A1 c1 l1 w hb)
 |true=>
  rw [Ya rfl] at h;by_cases hl:(l1.length:Int)=a0_1
  ·rw [Ya hl] at h;by_cases hs:azz.small l1=true
   ·rw [Ya hs] at h;exact azz.go k a0_0 a0_1 a0_2 A1 c1 l1 r1 r2 w hb hl hr1 hs h
   ·rw [Yb hs] at h;cases h
  ·rw [Yb hl] at h;exact bad h (azz.nolen a0_0 a0_1 a0_2 A1 c1 l1 w hb hl)
def aMz.l0:Nat->List Int->List Int->Int->Int->Option (Bool)
 |0,_,_,_,_=>none
 |k+1,x0,x1,x12,x13=>if x13<x12 then (if 0<=x13 then (if x13<(x0.length:Int) then (if x13<(x1.length:Int) then (if (rd x0 x13)=(rd x1 x13) then (aMz.l0 k x0 x1 x12 (wrap64 (x13+1))) else (some false)) else (none)) else (none)) else (none)) else (some true)
def aMz.f (k:Nat) (l0:List Int) (l1:List Int):Option (Bool):=if (l0.length:Int)=(l1.length:Int) then (aMz.l0 k l0 l1 (l0.length:Int) 0) else (some false)
theorem aMz.calls (k : Nat) (A0 : Option Addr) (c0 : Nat) (l0 : List Int) (A1 : Option Addr) (c1 : Nat) (l1 : List Int) (r : Bool) (w : World) (hr0 : Kd.C (Kd.int .u8) w A0 l0.length l0) (hc0 : l0.length <= c0) (hr1 : Kd.C (Kd.int .u8) w A1 l1.length l1) (hc1 : l1.length <= c1) (h : aMz.f k l0 l1 = some r) :
  Calls Tryz.prog 54 #[.slice A0 l0.length c0, .slice A1 l1.length c1] w fun e w'=>e= .returned (.bool r)/\Drawn0 w w':=by
 have HR0:=Za hr0;have HC0:=Za hc0;clear hr0 hc0;have HR1:=Za hr1;have HC1:=Za hc1;clear hr1 hc1;have H:=h;clear h;unfold aMz.f at H;by_cases c3:(l0.length:Int)=(l1.length:Int)
 rotate_left
 ·rw [Yb c3] at H;have c3b0:((l0.length:Int)==(l1.length:Int))=false:=Zq c3;have c3b1:((l0.length:Int) !=(l1.length:Int))=true:=Yd c3
  have c3b2:(l0.length==l1.length)=false:=by first|simpa using c3|(simp at c3|-;omega)
  obtain rfl:=Zn H;go_enter Tryz.func54,Tryz.ntmps54;go_wp2
  repeat (go_quiet (fail);try go_wp2)
  go_ret;exact ⟨sd_,dn_⟩
 rw [Ya c3] at H;have c3b0:((l0.length:Int)==(l1.length:Int))=true:=Ye c3;have c3b1:((l0.length:Int) !=(l1.length:Int))=false:=Yc c3
 have c3b2:(l0.length==l1.length)=true:=by first|simpa using c3|(simp at c3|-;omega)
 clear c3;have H':=Za H;clear H;go_enter Tryz.func54,Tryz.ntmps54;go_wp2
 repeat (go_quiet (fail);try go_wp2)
 go_loopg [13] k (fun kq v13 w'=> ∃(x13_1:Int),v13= .int .i64 x13_1/\Aside0 (aMz.l0 kq l0 l1 (l0.length:Int) x13_1=some r)/\Aside0 (kq<=k)/\Drawn0 w w')
 case atStart=>exact ⟨(0),sd_,H',⟨Zv _⟩,dn_⟩
 clear H';clear c3b0 c3b1 c3b2;obtain ⟨x13_1,rfl,HA,HK1,⟨m1,rfl⟩⟩:=hrel;rcases gk with _|k1
 ·exact Yf HA.out (by simp [aMz.l0])
 have H:=HA.out;clear HA;simp only [aMz.l0] at H;by_cases c4:x13_1<(l0.length:Int)
 rotate_left
 ·rw [Yb c4] at H;have c4b0:=Ze c4;clear c4;obtain rfl:=Zn H;go_wp2
  repeat (go_quiet (fail);try go_wp2)
  go_ret;exact ⟨sd_,dn_⟩
 rw [Ya c4] at H;have c4b0:=Zd c4;clear c4;by_cases c5:0<=x13_1
 rotate_left
 ·rw [Yb c5] at H;exact Yf H (by simp)
 rw [Ya c5] at H;have c5b0:=Zd c5;clear c5;by_cases c6:x13_1<(l0.length:Int)
 rotate_left
 ·rw [Yb c6] at H;exact Yf H (by simp)
 rw [Ya c6] at H;have c6b0:=Zd c6;clear c6;by_cases c7:x13_1<(l1.length:Int)
 rotate_left
 ·rw [Yb c7] at H;exact Yf H (by simp)
 rw [Ya c7] at H;have c7b0:=Zd c7;clear c7;by_cases c8:(rd l0 x13_1)=(rd l1 x13_1)
 rotate_left
 ·rw [Yb c8] at H;have c8b0:((rd l0 x13_1)==(rd l1 x13_1))=false:=Zq c8;have c8b1:((rd l0 x13_1) !=(rd l1 x13_1))=true:=Yd c8;obtain rfl:=Zn H;have p109:0<=(x13_1:Int):=Zc as_;have q109:x13_1<(l0.length:Int):=Zc as_;obtain ⟨_,e109,hx109_0⟩:=Kd.brz HR0.out x13_1 p109 q109;cases e109
  replace p109:=Zz p109;replace q109:=Zz q109;have p110:0<=(x13_1:Int):=Zc as_;have q110:x13_1<(l1.length:Int):=Zc as_;obtain ⟨_,e110,hx110_0⟩:=Kd.brz HR1.out x13_1 p110 q110;cases e110
  replace p110:=Zz p110;replace q110:=Zz q110;go_wp2
  repeat (go_quiet (fail);try go_wp2)
  go_ret;exact ⟨sd_,dn_⟩
 rw [Ya c8] at H;have c8b0:((rd l0 x13_1)==(rd l1 x13_1))=true:=Ye c8;have c8b1:((rd l0 x13_1) !=(rd l1 x13_1))=false:=Yc c8;clear c8;have H':=Za H;clear H;have p109:0<=(x13_1:Int):=Zc as_;have q109:x13_1<(l0.length:Int):=Zc as_;obtain ⟨_,e109,hx109_0⟩:=Kd.brz HR0.out x13_1 p109 q109;cases e109
 replace p109:=Zz p109;replace q109:=Zz q109;have p110:0<=(x13_1:Int):=Zc as_;have q110:x13_1<(l1.length:Int):=Zc as_;obtain ⟨_,e110,hx110_0⟩:=Kd.brz HR1.out x13_1 p110 q110;cases e110
 replace p110:=Zz p110;replace q110:=Zz q110;go_wp2
 repeat (go_quiet (fail);try go_wp2)
 go_roundg k1
 case measure=>have:=HK1.out;omega
 case rel=>exact ⟨(wrap64 (x13_1+1)),sd_,H',⟨by have:=HK1.out;omega⟩,dn_⟩
def eqRows (k:Nat):List (List Int)->List (List Int)->Option Bool
 | [], [] =>some true
 |x::xs,y::ys=>(aMz.f k x y).bind fun b=>if b=true then eqRows k xs ys else some false
 |_,_=>some false
def eqFunc (k:Nat) (p q:List (List Int)):Option Bool:=if p.length=q.length then (if p.length<=1000000 then eqRows k p q else none) else some false
theorem eqFunc.calls (K : Nat) (A B : Option Addr) (ca cb : Nat) (p q : List (List Int)) (r : Bool) (W : World) (hA : Kd.C (dM 5 .u8) W A p.length p) (hB : Kd.C (dM 5 .u8) W B q.length q) (h : eqFunc K p q = some r) :
  Calls Tryz.prog 53 #[.slice A p.length ca, .slice B q.length cb, .func (.func 54) #[] #[]] W fun e w'=>e= .returned (.bool r)/\Below W.heap.size W w':=by
 unfold eqFunc at h;by_cases hl:p.length=q.length
 ·rw [Ya hl] at h;by_cases hsm:p.length<=1000000
  ·rw [Ya hsm] at h;have HA:=Za hA;have HBq:=Za hB;obtain ⟨n,hn⟩: ∃n,q.length=n:=⟨_,rfl⟩;have HN:=Za (show p.length=n/\q.length=n from ⟨hl.trans hn,hn⟩);have hnn:n<=1000000:=by omega
   rw [hl,hn];have HR:=Za h;have hself:((n:Int) !=(n:Int))=false:=by simp
   clear h hA hB hl hn;go_enter Tryz.func53,Tryz.ntmps53;go_wp2
   go_loopw [17] (fun iv wr=> ∃i:Nat,i<=n/\iv= .int .i64 (i:Int)/\Aside0 (Below W.heap.size W wr)/\Aside0 (eqRows K (p.drop i) (q.drop i)=some r)) (fun iv _=>n - (intOf iv).toNat)
   case atStart=>exact ⟨0,Nat.zero_le _,rfl,⟨Zw _ _⟩,⟨by simpa using HR.out⟩⟩
   clear HR;obtain ⟨w6,rfl⟩: ∃w6,w6=wr:=⟨_,rfl⟩;obtain ⟨i,hi,rfl,HB,HE⟩:=hrel;by_cases hlt:i<n
   ·obtain ⟨x,hx⟩: ∃x,p[i]?=some x:=⟨_,Zf (by have:=HN.out.1;omega)⟩;obtain ⟨y,hy⟩: ∃y,q[i]?=some y:=⟨_,Zf (by have:=HN.out.2;omega)⟩;obtain ⟨a1,A1,c1,rfl,_,l1,C1⟩:=b5z (Kd.aIz HA.out HB.out) i x hx;obtain ⟨a2,A2,c2,rfl,_,l2,C2⟩:=b5z (Kd.aIz HBq.out HB.out) i y hy
    have hd1:p.drop i=x::p.drop (i+1):=by
     obtain ⟨h1,h2⟩:=Zk hx;rw [List.drop_eq_getElem_cons h1,h2]
    have hd2:q.drop i=y::q.drop (i+1):=by
     obtain ⟨h1,h2⟩:=Zk hy;rw [List.drop_eq_getElem_cons h1,h2]
    have he:=HE.out;rw [hd1,hd2,eqRows] at he;obtain ⟨b,hb,he⟩:=Option.bind_eq_some_iff.1 he;have HC:=Za (aMz.calls K A1 c1 x A2 c2 y b w6 C1 l1 C2 l2 hb);have i1:(0:Int)<=(i:Int):=by omega
    have i2:(i:Int)<(n:Int):=by omega
    have HE2:=Za he;clear hd1 hd2 hb he C1 C2 l1 l2 hx hy HE
    cases b with
    |true=>
     go_wp2_with fail
     refine HC.out.mono ?_;rintro e w9 ⟨rfl,m9,rfl⟩;have HB9:=Za (aWz HB.out m9);go_wp2;go_roundw
     case rel=>exact ⟨i+1,by omega,by go_num,HB9,⟨by simpa using HE2.out⟩⟩
     case measure=>simp [intOf];omega
    |false=>
     have HRR:=Za (show r=false by have:=HE2.out;rw [Yb (by decide)] at this;cases this;rfl)
     go_wp2_with fail
     refine HC.out.mono ?_;rintro e w9 ⟨rfl,m9,rfl⟩;have HB9:=Za (aWz HB.out m9);go_wp2;go_ret;exact ⟨by rw [HRR.out];rfl,HB9.out⟩
   ·obtain rfl:i=n:=by omega
    have HRR:=Za (show r=true by
     have:=HE.out;rw [List.drop_of_length_le (by rw [HN.out.1];exact Zv _),List.drop_of_length_le (by rw [HN.out.2];exact Zv _),eqRows] at this
     cases this;rfl)
    go_wp2;go_ret;exact ⟨by rw [HRR.out];rfl,HB.out⟩
  ·rw [Yb hsm] at h;cases h
 ·rw [Yb hl] at h;cases h
  have hne:((p.length:Int) !=(q.length:Int))=true:=by simpa using fun h=>hl (by omega)
  generalize p.length=n1 at hne|-;generalize q.length=n2 at hne|-;clear hA hB hl;go_enter Tryz.func53,Tryz.ntmps53;go_wp2;go_ret;exact ⟨rfl,Zw _ _⟩
def bjz.f (k:Nat) (a0_0 a0_1 a0_2:Int) (l1:List (List Int)):Option Bool:=
 (aGz.f a0_0 a0_1 a0_2).bind fun b=>if b=true then (if (l1.length:Int)=a0_1+a0_2 then ((azz.f k a0_0 a0_1 a0_2 (l1.take a0_1.toNat)).bind fun t=>if t.2=0 then eqFunc k t.1 (l1.drop a0_1.toNat) else some false) else some false) else some false
theorem cut_to3 {P : Program} (t e : TypeId) {i : TypeInfo} (ht : P.underlying t = some (.slice e)) (hi : P.info? e = some i) (A : Option Addr) (n c j : Nat) (hm : j <= n) (hc : n <= c) :
  ∀W:World,(Instr.slice t (.slice A n c) none (some (.int .i64 (j:Int))) (some (.int .i64 (j:Int)))).run P W= .ok (.slice A j j) W:=by
 intro W;have hel:P.elem t=e:=by simp [Program.elem,ht]
 have hu:P.underlying t=some (.slice (P.elem t)):=by rw [hel];exact ht
 have ha:(A.map fun x=>x.add 0)=A:=by cases A<;>simp [Addr.add]
 have h1:(j:Int)<=(c:Int):=by omega
 simp [Instr.slice,run_underlying hu,Instr.sliceBounds,run_sliceBound,h1,hel,sizeOf,typeInfo,hi,sliced,Result.andThen,ha]
theorem bjz.nomay (a0_0 a0_1 a0_2 : Int) (A1 : Option Addr) (c1 n : Nat) (w : World) (h : aGz.f a0_0 a0_1 a0_2 = some false) :
  Calls Tryz.prog 22 #[.agg #[.int .i64 a0_0, .int .i64 a0_1, .int .i64 a0_2], .slice A1 n c1] w fun e w'=>e= .returned (.bool false)/\Below w.heap.size w w':=by
 have HM:=Za (fun w=>aGz.calls a0_0 a0_1 a0_2 false w h);have hu:=Tryz.underlying23;have HB:=Za (amz (Zw w.heap.size w) (.cells #[.int .i64 a0_0, .int .i64 a0_1, .int .i64 a0_2] 23));clear h;go_enter Tryz.func22,Tryz.ntmps22
 go_wp2_with fail
 generalize w.alloc (.cells #[.int .i64 a0_0, .int .i64 a0_1, .int .i64 a0_2] 23)=w0 at HB|-;refine (HM.out w0).mono ?_;rintro e w1 ⟨rfl,hB1⟩;have HB1:=Za (HB.out.trans (hB1.mono HB.out.size));clear hB1;go_wp2;go_ret;exact ⟨rfl,HB1.out⟩
theorem bjz.nolen (a0_0 a0_1 a0_2 : Int) (A1 : Option Addr) (c1 n : Nat) (w : World) (h : aGz.f a0_0 a0_1 a0_2 = some true) (hk : 1 <= a0_1 /\ a0_1 <= 1000 /\ 1 <= a0_2 /\ a0_2 <= 1000) (hn : (n : Int) ≠ a0_1 + a0_2) :
  Calls Tryz.prog 22 #[.agg #[.int .i64 a0_0, .int .i64 a0_1, .int .i64 a0_2], .slice A1 n c1] w fun e w'=>e= .returned (.bool false)/\Below w.heap.size w w':=by
 have HM:=Za (fun w=>aGz.calls a0_0 a0_1 a0_2 true w h);have hu:=Tryz.underlying23;have HB:=Za (amz (Zw w.heap.size w) (.cells #[.int .i64 a0_0, .int .i64 a0_1, .int .i64 a0_2] 23));have HX:=Za (heap_alloc_new w (.cells #[.int .i64 a0_0, .int .i64 a0_1, .int .i64 a0_2] 23));have hs:IntKind.i64.wrap (a0_1+a0_2)=a0_1+a0_2:=by rw [IntKind.wrap_i64];omega
 have hne:((n:Int) !=a0_1+a0_2)=true:=by simpa using hn
 clear h hk hn;go_enter Tryz.func22,Tryz.ntmps22
 go_wp2_with fail
 generalize w.alloc (.cells #[.int .i64 a0_0, .int .i64 a0_1, .int .i64 a0_2] 23)=w0 at HB HX|-;refine (HM.out w0).mono ?_;rintro e w1 ⟨rfl,hB1⟩;have HB1:=Za (HB.out.trans (hB1.mono HB.out.size));have HX1:=aJz HX.out hB1;have q1:w1.cell? ⟨w.heap.size,1,none⟩=some (.int .i64 a0_1):=(abz HX1 1).trans rfl;have q2:w1.cell? ⟨w.heap.size,2,none⟩=some (.int .i64 a0_2):=(abz HX1 2).trans rfl;clear hB1 HX HX1;go_wp2;go_ret;exact ⟨rfl,HB1.out⟩
theorem bjz.go (k : Nat) (a0_0 : Int) (kk M n : Nat) (A1 : Option Addr) (c1 : Nat) (l1 t1 : List (List Int)) (t2 : Int) (r : Bool) (w : World) (h : aGz.f a0_0 (kk : Int) (M : Int) = some true) (hk : 1 <= kk /\ kk <= 1000 /\ 1 <= M /\ M <= 1000) (hn : n = kk + M) (hln : l1.length = n) (hc : n <= c1)
  (hr:Kd.C (dM 5 .u8) w A1 l1.length l1) (hp:azz.f k a0_0 (kk:Int) (M:Int) (l1.take kk)=some (t1,t2)) (he:t2=0->eqFunc k t1 (l1.drop kk)=some r) (he2:t2≠0->r=false):
  Calls Tryz.prog 22 #[.agg #[.int .i64 a0_0, .int .i64 (kk:Int), .int .i64 (M:Int)], .slice A1 n c1] w fun e w'=>e= .returned (.bool r)/\Below w.heap.size w w':=by
 have HM:=Za (fun w=>aGz.calls a0_0 (kk:Int) (M:Int) true w h);have HE:=Za he;have HE2:=Za he2;have HP:=Za hp;have HR:=Za hr;have HLN:=Za hln;have hu:=Tryz.underlying23;have hu2:=Tryz.underlying24;have HB:=Za (amz (Zw w.heap.size w) (.cells #[.int .i64 a0_0, .int .i64 (kk:Int), .int .i64 (M:Int)] 23));have HX:=Za (heap_alloc_new w (.cells #[.int .i64 a0_0, .int .i64 (kk:Int), .int .i64 (M:Int)] 23));have hs:IntKind.i64.wrap ((kk:Int)+(M:Int))=((kk+M:Nat):Int):=by rw [IntKind.wrap_i64];omega
 have hne:((n:Int) !=((kk+M:Nat):Int))=false:=by rw [hn];simp
 have hKn:kk<=n:=by omega
 clear h hk hn he he2 hp hr hln;go_enter Tryz.func22,Tryz.ntmps22
 go_wp2_with fail
 generalize w.alloc (.cells #[.int .i64 a0_0, .int .i64 (kk:Int), .int .i64 (M:Int)] 23)=w0 at HB HX|-;refine (HM.out w0).mono ?_;rintro e w1 ⟨rfl,hB1⟩;have HB1:=Za (HB.out.trans (hB1.mono HB.out.size));have HX1:=Za (aJz HX.out hB1);have q0:w1.cell? ⟨w.heap.size,0,none⟩=some (.int .i64 a0_0):=(abz HX1.out 0).trans rfl;have q1:w1.cell? ⟨w.heap.size,1,none⟩=some (.int .i64 (kk:Int)):=(abz HX1.out 1).trans rfl;have q2:w1.cell? ⟨w.heap.size,2,none⟩=some (.int .i64 (M:Int)):=(abz HX1.out 2).trans rfl;have hinfo:(Tryz.prog.info? 34).map (fun i=>i.size)=some 1:=by kernel_rfl
 obtain ⟨inf,hinf,hsz⟩:=Option.map_eq_some_iff.1 hinfo;have hcut:=cut_to3 (P:=Tryz.prog) 24 34 hu2 hinf A1 n c1 kk hKn hc;have htk:(l1.take kk).length=kk:=by rw [List.length_take,HLN.out];omega
 have HPA:=Za (show Calls Tryz.prog 19 #[.agg #[.int .i64 a0_0, .int .i64 (kk:Int), .int .i64 (M:Int)], .slice A1 kk kk] w1.drew _ from by
  have h1:=azz.calls k a0_0 (kk:Int) (M:Int) A1 kk (l1.take kk) t1 t2 w1.drew (Kd.C_take (Kd.aIz HR.out HB1.out.drew) (by rw [HLN.out];exact hKn)) (by omega) HP.out;rw [htk] at h1
  exact h1)
 have hmo:Tryz.prog.follows .mixedOrders=true:=by kernel_rfl
 have hdl:(l1.drop kk).length=n - kk:=by rw [List.length_drop,HLN.out]
 have hcut2:=ebz (P:=Tryz.prog) 24 34 .i64 hu2 hinf 1 hsz A1 n c1 (kk:Int) (by omega) (by omega);have hdr:=Kd.C_drop (m:=kk) (c:=c1) HR.out (by rw [HLN.out];exact hKn) (by rw [HLN.out];exact hc);rw [show (dM 5 .u8).sz=1 from rfl,hdl] at hdr;simp only [Zu] at hcut2;generalize (if c1=kk then A1 else Option.map (fun x=>x.add (kk*1)) A1)=A4 at hcut2 hdr;have HDR:=Za hdr;have HDL:=Za hdl;obtain ⟨c4,hc4⟩: ∃c4,c1 - kk=c4:=⟨_,rfl⟩;obtain ⟨n4,hn4⟩: ∃n4,n - kk=n4:=⟨_,rfl⟩;rw [hc4,hn4] at hcut2;rw [hn4] at HDR HDL;clear hB1 HX HB HM hinfo hinf htk HP hsz hdl hdr hc4 hn4
 go_wp2_with fail
 refine bPz (n:=13) (S:=fun w'=>w'.cell? ⟨w.heap.size,0,none⟩=some (.int .i64 a0_0)/\w'.cell? ⟨w.heap.size,1,none⟩=some (.int .i64 (kk:Int))/\w'.cell? ⟨w.heap.size,2,none⟩=some (.int .i64 (M:Int))) (ds:= []) (bA 13 0) kr_ rfl rfl ⟨q0,q1,q2⟩ (fun hHeld=> ?_);refine pu_ 1 22 2 ?_;refine pu_ 2 23 6 ?_;refine pu_ 4 25 22 ?_;refine tk_ 0 21 23 hHeld ?_;refine tk_ 3 24 31 hHeld ?_;refine tk_ 5 26 63 hHeld ?_;refine pu_ 6 27 127 ?_;refine one_ (i:=7) (N:=some 28) (bA 13 255) rfl rfl kr_ (by decide) (fun K hK=> ?_);refine goes_ Tryz.func19 kr_ rfl #[.agg #[.int .i64 a0_0, .int .i64 (kk:Int), .int .i64 (M:Int)], .slice A1 kk kk] (by rfl) rfl rfl am_ ?_
 with_reducible refine (HPA.out).mono ?_
 rintro e w2 ⟨v,rfl,p3,p4⟩;refine ⟨_,rfl,?_⟩;have P3:=Za p3;have HB2:=Za (HB1.out.drew.trans (p4.mono HB1.out.drew.size));have HX2:=Za (aJz (show w1.drew.heap[w.heap.size]?=_ from HX1.out) p4);clear p3 p4;refine hK.out _ _ ⟨(abz HX2.out 0).trans rfl,(abz HX2.out 1).trans rfl,(abz HX2.out 2).trans rfl⟩ (fun hHeld=> ?_);clear hK K;refine norm_ (a':= ?_) ?_ ?_;rotate_left
 ·show Act.put _ (some 28) _=_;simp only [Act.put,Zg,Zh,Zi,i64_w,i32_w];rfl
 refine pu_ 8 20 511 ?_;refine pu_ 9 29 1023 ?_;refine pu_ 10 30 2047 ?_;refine pu_ 11 5 4095 ?_;refine pu_ 12 6 8191 ?_;refine done_ kr_ ?_;have q1:w2.cell? ⟨w.heap.size,1,none⟩=some (.int .i64 (kk:Int)):=hHeld.2.1;obtain ⟨A2,c2,rfl,l2,C2⟩:=Kd.S_reads P3.out;by_cases ht:t2=0
 ·subst ht
  have HEQ:=Za (show Calls Tryz.prog 53 #[.slice A2 t1.length c2, .slice A4 n4 c4, .func (.func 54) #[] #[]] w2 _ from by
   have h1:=eqFunc.calls k A2 A4 c2 c4 t1 (l1.drop kk) r w2 C2 (by have:=Kd.aIz HDR.out (HB2.out);rw [HDL.out];exact this) (HE.out rfl);rw [HDL.out] at h1
   exact h1)
  generalize t1.length=m1 at HEQ l2|-;clear C2 P3 HPA
  go_wp2_with fail
  refine HEQ.out.mono ?_;rintro e w3 ⟨rfl,q3⟩;have HB3:=Za (HB2.out.trans (q3.mono HB2.out.size));clear q3;go_wp2;go_ret;exact ⟨by cases r<;>rfl,HB3.out⟩
 ·have hne2:(t2==0)=false:=by simpa using ht
  have HRR:=Za (HE2.out ht);generalize t1.length=m1 at l2|-;clear C2 P3 HPA;go_wp2;go_ret;exact ⟨by rw [HRR.out];rfl,HB2.out⟩
theorem bjz.calls (k:Nat) (a0_0:Int) (a0_1:Int) (a0_2:Int) (A1:Option Addr) (c1:Nat) (l1:List (List Int)) (r:Bool) (w:World) (hr1:Kd.C (Kd.slice 5 (Kd.int .u8)) w A1 l1.length l1) (hc1:l1.length<=c1) (h:bjz.f k a0_0 a0_1 a0_2 l1=some r):
 Calls Tryz.prog 22 #[.agg #[.int .i64 a0_0, .int .i64 a0_1, .int .i64 a0_2], .slice A1 l1.length c1] w fun e w'=>e= .returned (.bool r)/\Below w.heap.size w w':=by
 unfold bjz.f at h;obtain ⟨b,hb⟩:=ejz a0_0 a0_1 a0_2;rw [hb] at h;simp only [Zl] at h
 cases b with
 |false=>
  rw [Yb (by decide)] at h;cases h
  exact bjz.nomay a0_0 a0_1 a0_2 A1 c1 l1.length w hb
 |true=>
  rw [Ya rfl] at h;obtain ⟨p1,p2,k1,k2,m1,m2⟩:=cJz hb;by_cases hl:(l1.length:Int)=a0_1+a0_2
  ·rw [Ya hl] at h;obtain ⟨kk,rfl⟩: ∃kk:Nat,a0_1=(kk:Int):=⟨a0_1.toNat,by omega⟩;obtain ⟨M,rfl⟩: ∃M:Nat,a0_2=(M:Int):=⟨a0_2.toNat,by omega⟩;rw [Zu] at h;obtain ⟨⟨t1,t2⟩,hp,h⟩:=Option.bind_eq_some_iff.1 h;exact bjz.go k a0_0 kk M l1.length A1 c1 l1 t1 t2 r w hb (by omega) (by omega) rfl hc1 hr1 hp (fun ht=>by dsimp only at h;rwa [Ya ht] at h) (fun ht=>by dsimp only at h;rw [Yb ht] at h;cases h;rfl)
  ·rw [Yb hl] at h;cases h
   exact bjz.nolen a0_0 a0_1 a0_2 A1 c1 l1.length w hb (by omega) hl
def cpz.f (a0_0:Int) (a0_1:Int) (a0_2:Int):Option (Int×Int):=(blz.f a0_0).bind fun bt112=>(if bt112.2.2.2.1=106 then (some (8,0)) else (if bt112.2.2.2.1=105 then (some (16,0)) else (if bt112.2.2.2.1=98 then (some (1,4)) else (some (1,0)))))
theorem cpz.calls (a0_0:Int) (a0_1:Int) (a0_2:Int) (r1:Int) (r2:Int) (w:World) (h:cpz.f a0_0 a0_1 a0_2=some (r1,r2)):
 Calls Tryz.prog 89 #[.agg #[.int .i64 a0_0, .int .i64 a0_1, .int .i64 a0_2]] w fun e w'=>e= .returned (.tuple #[.int .i64 r1, .int .i64 r2])/\Below w.heap.size w w':=by
 have hu23:=Tryz.underlying23;have hu109:=Tryz.underlying109;have HB:=Za (Zw w.heap.size w);have H:=h;clear h;unfold cpz.f at H;obtain ⟨⟨t112,t113,t114,t115,t116,t117⟩,A2,H⟩:=ob_ H
 (try dsimp only at H)
 have HH:=Za H;clear H;go_enter Tryz.func89,Tryz.ntmps89
 go_wp2_with (first|((with_reducible refine a8z (N:=1) rfl ?_);refine bx_ 1 #[.int .i64 a0_0, .int .i64 a0_1, .int .i64 a0_2] 23 ?_;intro gb111 hg w4 hbox hb;have n_:=Zb (hs_ HB hb) (Zb (Za (hbox)) (Zb (ag_ HB gb111) (ag_ HB gb111)));clear HB;obtain ⟨HB,BK111,GW111,GE111⟩:=n_;clear hb hbox hg;obtain ⟨_,_,_,_,_,_⟩:=bc3_ BK111.out)|((with_reducible refine aaz (f:=75) rfl ?_);refine gl_ (some 9) Tryz.func75 #[.int .i64 a0_0] ?_;(with_reducible refine (blz.calls a0_0 t112 t113 t114 t115 t116 t117 _ A2.out).mono ?_);rintro e w6 ⟨rfl,hb⟩;refine ⟨_,rfl,?_⟩;have n_:=Zb (bb_ BK111 hb) (hs_ HB hb);clear BK111 HB;obtain ⟨BK111,HB⟩:=n_;(try clear hb))|((with_reducible refine a8z (N:=4) rfl ?_);refine b6z ?hg (N:=4) ?hd (cs:= #[.string (⟨#[]⟩:ByteArray), .int .i64 0, .int .u32 0, .int .u8 0, .int .i64 0]) (t:=109) ?hr ?_;(case hd=>rfl);(case hg=>rfl);(case hr=>first|(go_simp;done)|(go_simp;rfl));intro gb118 hg w7 hbox hb;have n_:=Zb (bb_ BK111 hb) (Zb (hs_ HB hb) (Zb (Za (hbox)) (Zb (ag_ HB gb118) (Zb (ag_ HB gb118) (Zb (n1_ BK111 gb118) (n2_ BK111 gb118))))));clear BK111 HB;obtain ⟨BK111,HB,BK118,GW118,GE118,NB111_118,NB118_111⟩:=n_;clear hb hbox hg;have hnb8:=NB118_111.out;have hnc8:=NB111_118.out;obtain ⟨_,_,_,_,_,_,_,_,_,_⟩:=bc5_ BK118.out))
 all_goals
  go_ret2;refine ⟨?_,bl_⟩;have H:=HH.out
  simp_all
def a4z.j0:Nat->Int->Bool->Int->Int->Int->Option (Int×Int)
 |0,_,_,_,_,_=>none
 |k+1,x1,x9,x112000,x112001,x112002=>if x9=true then (some (0,1)) else (if x1>4096 then (some (0,11)) else ((cpz.f x112000 x112001 x112002).bind fun bt113=>(if (wrap64 (bt113.1*x112001))=0 then (none) else (some (wrap64 (bt113.1*(mx (wrap64 (Int.tdiv (wrap64 ((wrap64 ((wrap64 (x1+bt113.2))+(wrap64 (bt113.1*x112001)))) - 1)) (wrap64 (bt113.1*x112001)))) 1)),0)))))
def a4z.f (k:Nat) (a0_0:Int) (a0_1:Int) (a0_2:Int) (a1:Int):Option (Int×Int):=(aGz.f a0_0 a0_1 a0_2).bind fun t112=>(if t112=true then (a4z.j0 k a1 (decide (a1<0)) a0_0 a0_1 a0_2) else (a4z.j0 k a1 true a0_0 a0_1 a0_2))
theorem a4z.aRz: ∀k,(∀y0 y1 y2 y3 y4,LeO (a4z.j0 k y0 y1 y2 y3 y4) (a4z.j0 (k+1) y0 y1 y2 y3 y4))
 |0=>fun _ _ _ _ _ r h=>by simp [a4z.j0] at h
 |k+1=>by
  have ih0:=a4z.aRz k
  ·intro y0 y1 y2 y3 y4;unfold a4z.j0
   repeat' with_reducible first|apply ih0|apply Yg|apply Yh|apply Yi|refine Yj ?_ fun _=>?_
theorem a4z.mono: ∀a0 a1 a2 a3 k,LeO (a4z.f k a0 a1 a2 a3) (a4z.f (k+1) a0 a1 a2 a3):=by
 intro a0 a1 a2 a3 k;have ih0:=a4z.aRz k;unfold a4z.f
 repeat' with_reducible first|apply ih0|apply Yg|apply Yh|apply Yi|refine Yj ?_ fun _=>?_
theorem a4z.calls (k : Nat) (a0_0 : Int) (a0_1 : Int) (a0_2 : Int) (a1 : Int) (r1 : Int) (r2 : Int) (w : World) (h : a4z.f k a0_0 a0_1 a0_2 a1 = some (r1, r2)) :
  Calls Tryz.prog 88 #[.agg #[.int .i64 a0_0, .int .i64 a0_1, .int .i64 a0_2], .int .i64 a1] w fun e w'=>e= .returned (.tuple #[.int .i64 r1, .int .i64 r2])/\Below w.heap.size w w':=by
 have hu23:=Tryz.underlying23;have HB:=Za (Zw w.heap.size w);have H:=h;clear h;unfold a4z.f at H;have HC3:=Za H;clear H;go_enter Tryz.func88,Tryz.ntmps88
 go_upto_region 1 with (first|((with_reducible refine a8z (N:=2) rfl ?_);refine bx_ 2 #[.int .i64 a0_0, .int .i64 a0_1, .int .i64 a0_2] 23 ?_;intro gb111 hg w4 hbox hb;have n_:=Zb (hs_ HB hb) (Zb (Za (hbox)) (Zb (ag_ HB gb111) (ag_ HB gb111)));clear HB;obtain ⟨HB,BK111,GW111,GE111⟩:=n_;clear hb hbox hg))
 (try simp only [Act.put,Zg,Zh,Zi])
 go_cut [9] (fun v9 wc=> ∃(kq:Nat) (x9_2:Bool),v9= .bool x9_2/\Aside0 (a4z.j0 kq a1 x9_2 a0_0 a0_1 a0_2=some (r1,r2))/\Aside0 (kq<=k)/\Aside0 (wc.heap[gb111]?=some (.cells #[.int .i64 a0_0, .int .i64 a0_1, .int .i64 a0_2] 23 (0,0)))/\Aside0 (Below w.heap.size w wc))
 case first=>
  have H:=HC3.out;clear HC3;obtain ⟨t112,A5,H⟩:=ob_ H
  (try dsimp only at H)
  by_cases c6:t112=true
  ·subst c6;rw [Ya rfl] at H;have H':=Za H;clear H;obtain ⟨_,_,_,_,_,_⟩:=bc3_ BK111.out
   go_wp2_with (first|((with_reducible refine aaz (f:=41) rfl ?_);refine gl_ (some 11) Tryz.func41 #[.agg #[.int .i64 a0_0, .int .i64 a0_1, .int .i64 a0_2]] ?_;(with_reducible refine (aGz.calls a0_0 a0_1 a0_2 true _ A5.out).mono ?_);rintro e w8 ⟨rfl,hb⟩;refine ⟨_,rfl,?_⟩;have n_:=Zb (bb_ BK111 hb) (hs_ HB hb);clear BK111 HB;obtain ⟨BK111,HB⟩:=n_;(try clear hb)))
   go_meet
   case rel=>exact ⟨_,(decide (a1<0)),sd_,H',⟨by first|omega|exact Zv _⟩,⟨bk_⟩,⟨bl_⟩⟩
  ·replace c6:=Zr c6;subst c6;rw [Yb (show¬(false=true) by decide)] at H;have H':=Za H;clear H;obtain ⟨_,_,_,_,_,_⟩:=bc3_ BK111.out
   go_wp2_with (first|((with_reducible refine aaz (f:=41) rfl ?_);refine gl_ (some 11) Tryz.func41 #[.agg #[.int .i64 a0_0, .int .i64 a0_1, .int .i64 a0_2]] ?_;(with_reducible refine (aGz.calls a0_0 a0_1 a0_2 false _ A5.out).mono ?_);rintro e w10 ⟨rfl,hb⟩;refine ⟨_,rfl,?_⟩;have n_:=Zb (bb_ BK111 hb) (hs_ HB hb);clear BK111 HB;obtain ⟨BK111,HB⟩:=n_;(try clear hb)))
   go_meet
   case rel=>exact ⟨_,(true),sd_,H',⟨by first|omega|exact Zv _⟩,⟨bk_⟩,⟨bl_⟩⟩
 case rest=>
  clear HC3;obtain ⟨kq,x9_2,rfl,HA,HJ2,BK111,HB⟩:=hcut;rcases kq with _|kj2
  ·exact Yf HA.out (by simp [a4z.j0])
  have H:=HA.out;clear HA;simp only [a4z.j0] at H;by_cases c11:x9_2=true
  ·subst c11;rw [Ya rfl] at H;simp only [Zx,Zy] at H;obtain ⟨rfl,rfl⟩:=H;go_wp2;go_ret2;exact ⟨er_,bl_⟩
  ·replace c11:=Zr c11;subst c11;rw [Yb (show¬(false=true) by decide)] at H;by_cases c12:a1>4096
   ·rw [Ya c12] at H;have c12b0:decide (4096<a1)=true:=Zd c12;clear c12;simp only [Zx,Zy] at H;obtain ⟨rfl,rfl⟩:=H;go_wp2;go_ret2;exact ⟨er_,bl_⟩
   ·rw [Yb c12] at H;have c12b0:decide (4096<a1)=false:=Ze c12;clear c12;obtain ⟨⟨t113,t114⟩,A13,H⟩:=ob_ H
    (try dsimp only at H)
    by_cases c14:(wrap64 (t113*a0_1))=0
    ·rw [Ya c14] at H;exact Yf H (by simp)
    ·rw [Yb c14] at H;have c14b0:((wrap64 (t113*a0_1))==0)=false:=Zq c14;have c14b1:((wrap64 (t113*a0_1)) !=0)=true:=Yd c14;obtain ⟨ji15,hji15⟩: ∃j_:Int,(mx (wrap64 (Int.tdiv (wrap64 ((wrap64 ((wrap64 (a1+t114))+(wrap64 (t113*a0_1)))) - 1)) (wrap64 (t113*a0_1)))) 1)=j_:=⟨_,rfl⟩
     replace H:(some (wrap64 (t113*(ji15)),0))=some (r1,r2):=by first|(rw [hji15] at H;exact H)|(simp only [hji15] at H|-;exact H)
     (try rw [hji15] at A13)
     have hji15_:(if (wrap64 (Int.tdiv (wrap64 ((wrap64 ((wrap64 (a1+t114))+(wrap64 (t113*a0_1)))) - 1)) (wrap64 (t113*a0_1))))<1 then 1 else (wrap64 (Int.tdiv (wrap64 ((wrap64 ((wrap64 (a1+t114))+(wrap64 (t113*a0_1)))) - 1)) (wrap64 (t113*a0_1)))))=ji15:=hji15;simp only [Zx,Zy] at H;obtain ⟨rfl,rfl⟩:=H;obtain ⟨_,_,_,_,_,_⟩:=bc3_ BK111.out
     go_wp2_with (first|((with_reducible refine aaz (f:=89) rfl ?_);refine gl_ (some 22) Tryz.func89 #[.agg #[.int .i64 a0_0, .int .i64 a0_1, .int .i64 a0_2]] ?_;(with_reducible refine (cpz.calls a0_0 a0_1 a0_2 t113 t114 _ A13.out).mono ?_);rintro e w17 ⟨rfl,hb⟩;refine ⟨_,rfl,?_⟩;have n_:=Zb (bb_ BK111 hb) (hs_ HB hb);clear BK111 HB;obtain ⟨BK111,HB⟩:=n_;(try clear hb);obtain ⟨_,_,_,_,_,_⟩:=bc3_ BK111.out))
     go_ret2;exact ⟨by first|rfl|(simp [b7z,b8z] <;>rfl)|(simp only [<-hji15];first|rfl|(simp [b7z,b8z] <;>rfl))|(simp [*,b7z,b8z] <;>rfl),bl_⟩
section
variable {F : Fence} {n : Nat} {P : Program}
def SeqN {α:Type} (F:Fence) (n:Nat) (P:Program) (g:Nat) (lb:Array Value) (encs:α->Array Value) (Hd:Nat->α->World->Prop) (Kp:World->World->Prop) (S:List α->Prop) (M:Nat) (w:World):Prop:=
 ∀(l:Nat) (J:List α->World->Prop) (W:World),Below w.heap.size w W->(∀s A B,J s A->A.grownBy B none->J s B)->
  (∀pre x W1,J pre W1->Hd pre.length x W1->pre.length<M->YieldAt F (n - 1) P l (encs x) W1 fun e W'=>e= .returned (.bool true)/\J (pre++ [x]) W'/\Kp W1 W')->
  J [] W->CallsIn F n P g (#[.func (.yield l) #[] #[]] ++lb) W fun e W'=>(∃v,e= .returned v)/\ ∃xs,S xs/\J xs W'
def plainPostN {α:Type} (B:Nat) (Kp:World->World->Prop) (I:List α->World->Prop) (xs:List α) (W:World):Exit->Act->World->Prop
 | .normal,_,W'=>KeepsFrom B W W'/\Kp W W'/\I xs W'
 |_,_,_=>False
theorem wpIn_range_nth {α : Type} {g : Operand} {ps : Array Tmp} {assign body : Code} {Q : Exit -> Act -> World -> Prop} {a : Act} {w : World}
  (hro:F.round=none) (h1:1<=n) {gf:Nat} {lb:Array Value} (hg:a.eval g= .func (.func gf) #[] lb) (hFg:F.fn gf) (eg: ∀args w,(callFunc gf args).run P w= .ok (.enter gf args) w)
  {encs:α->Array Value} {Hd:Nat->α->World->Prop} {Kp:World->World->Prop} {S:List α->Prop} {M:Nat} {w0:World} (hseq:SeqN F (n - 1) P gf lb encs Hd Kp S M w0)
  (hKt: ∀ {A B C:World},Kp A B->Kp B C->Kp A C) (hKb: ∀(W:World) (l:Nat) (o o':Obj),w.heap.size<=l->W.heap[l]?=some o->o.isCells=false->Kp W (W.putObj l o')) (hb0:Below w0.heap.size w0 w) (hps: ∀x,(encs x).size=ps.size)
  (I:List α->World->Prop) (hI:OwnFrom w.heap.size I) (hHd: ∀m x,OwnFrom w.heap.size (fun (_:Unit) W=>Hd m x W)) (h0:I [] w) (a₁:α->Act)
  (hassign: ∀(l:Nat) (x:α) (W:World) (K:Act->World->Prop),K (a₁ x) W->
   assign.wpIn (F.inRound l) (n - 1 - 1) P (Exit.then K (fun _ _ _=>False)) { tmps:=(ps.zip (encs x)).foldl (fun t (p,v)=>t.setIfInBounds p v) a.tmps,defers:= [] } W)
  (hbody: ∀(l:Nat) (pre:List α) (x:α) (W:World),I pre W->Hd pre.length x W->pre.length<M->body.wpIn (F.inRound l) (n - 1 - 1) P (plainPostN w.heap.size Kp I (pre++ [x]) W) (a₁ x) W)
  (hdone: ∀(D:Nat) (xs:List α) (W:World),w.heap.size<=D->S xs->I xs W->W.heap[D]?=some (.deferred (some []))->Q .normal { a with defers:= { target:= .collected D,args:= #[] } ::a.defers } W):
  (Code.rangeFunc g ps assign body).wpIn F n P Q a w:=by
 refine wpIn_rangeFunc fun fn hfn=> ?_
 rw [hro];obtain ⟨L,hL⟩: ∃L:LoopState->Option Code->Loop,L=fun st pe=> { state:=st,pending:=pe,fn,tmps:=a.tmps,params:=ps,assign,body,defers:=w.heap.size } :=⟨_,rfl⟩
 obtain ⟨V,hV⟩: ∃V,(w.alloc (.deferred (some []))).alloc (.loop (L .ready none))=V:=⟨_,rfl⟩
 have vl:V.heap[w.heap.size+1]?=some (.loop (L .ready none)):=by
  rw [<-hV];have:=World.alloc_heap_new (w.alloc (.deferred (some []))) (.loop (L .ready none));rwa [World.size_alloc] at this
 have vd:V.heap[w.heap.size]?=some (.deferred (some [])):=by
  rw [<-hV];exact (Below.heap_alloc _ _ _ (by simp)).trans (World.alloc_heap_new w _)
 refine ⟨w.heap.size+1, [{ target:= .collected w.heap.size,args:= #[] }],V, { target:= .fn (.func gf) lb,args:= #[.func (.yield (w.heap.size+1)) #[] #[]] },V,gf,
  #[.func (.yield (w.heap.size + 1)) #[] #[]] ++ lb, V, by rw [<- hV, hL]; exact run_enterLoop_outer _ _ _ _ _, by simp only [resolve, hg]; simp [go_sem], ?_, by simp [invoke, go_sem, eg], fun _ => h1, ?_⟩
 ·intro f' hf';simp [Target.leads] at hf';subst hf';exact hFg
 refine (hseq (w.heap.size+1) (fun pre W=>(I pre W/\w.heap.size+1<W.heap.size)/\W.heap[w.heap.size+1]?=some (.loop (L .ready none))/\W.heap[w.heap.size]?=some (.deferred (some []))) V ?_ ?_ ?_ ?_).mono ?_
 ·rw [<-hV];exact hb0.trans ((((Zw _ w).alloc (Zv _) _).alloc (by simp) _).mono hb0.size)
 ·rintro s A B ⟨⟨i1,i2⟩,i3,i4⟩ hgr;exact ⟨⟨hI s A B none i1 hgr (fun r e=>by cases e),Zp i2 hgr.size⟩,(hgr.block _ i2 (by simp)).trans i3,(hgr.block _ (by omega) (by simp)).trans i4⟩
 ·rintro pre x W ⟨⟨i1,i2⟩,i3,i4⟩ hx hlen;have hy:=run_yield (P:=P) (args:=encs x) i3 (by rw [hL];exact hps x);rw [hL] at hy;refine ⟨fn,_,assign,body,hy,roundIn_of_wpIn hfn (hassign _ x W _ ?_)⟩;refine ⟨_,run_beginRound i3 (by rw [hL]),?_⟩;have l2:(W.putObj (w.heap.size+1) (.loop { L .ready none with state:= .busy })).heap[w.heap.size+1]?=some (.loop { L .ready none with state:= .busy }):=World.putObj_heap_same i2;have d2:(W.putObj (w.heap.size+1) (.loop { L .ready none with state:= .busy })).heap[w.heap.size]?=some (.deferred (some [])):=(World.putObj_heap_other (by omega)).trans i4;have k2:Kp W (W.putObj (w.heap.size+1) (.loop { L .ready none with state:= .busy })):=hKb _ _ _ _ (by omega) i3 rfl;refine wpIn_mono (hbody _ pre x _ (hI.putObj _ i1 (by omega) i3 rfl) ((hHd _ x).putObj (s:=()) _ hx (by omega) i3 rfl) hlen) ?_;rintro e a3 W3 hp
  cases e with
  |normal=>
   obtain ⟨q1,q2,q3⟩:=hp;have l3:=q1.same _ _ (by omega) l2 rfl;have d3:=q1.same _ _ (Zv _) d2 rfl;have hr:=run_endRound (P:=P) none l3;have hlt:=(Array.getElem?_eq_some_iff.1 l3).1;refine ⟨_,_,hr,rfl,⟨⟨hI.putObj _ q3 (by omega) l3 rfl,Zp hlt (grownBy_putObj' _ _ _).size⟩,?_,(World.putObj_heap_other (by omega)).trans d3⟩,hKt (hKt k2 q2) (hKb _ _ _ _ (by omega) l3 rfl)⟩;rw [World.putObj_heap_same hlt,hL];rfl
  |ret=>exact hp.elim
  |exit id=>exact hp.elim
  |goto t=>exact hp.elim
  |panic ch=>exact hp.elim
  |outgrown=>exact hp.elim
 ·refine ⟨⟨?_,?_⟩,vl,vd⟩
  ·rw [<-hV];exact hI.alloc _ (hI.alloc _ h0)
  ·rw [<-hV];simp
 ·rintro e W2 ⟨⟨v,rfl⟩,xs,hS,⟨i1,i2⟩,i3,i4⟩;exact ⟨none,_,by have:=run_endLoop (P:=P) i3 (by rw [hL];simp);rw [hL] at this;exact this,hdone _ xs _ (Zv _) hS (hI.putObj _ i1 (by omega) i3 rfl) ((World.putObj_heap_other (by omega)).trans i4)⟩
end
end Go.Proofs.Xc
end
