-- Joined texts of this work (wip/tools/bundle.py).
import Derived.Test.YtpdakdcmahlghaaGreatBTrialTells9
set_option maxHeartbeats 8000000
set_option maxRecDepth 100000
set_option linter.unusedVariables false
set_option linter.unusedSimpArgs false
section
namespace Go.Proofs.Xc
open Go.RowKit Go.Proofs.Pw Go.Proofs.Pl Go.Proofs.Pm
attribute [local go_sem] bcz bdz bpz bqz a4z a5z bez bfz
theorem cDz {p k m:Int} (h:aCz.f p k m=some true):1<=p/\p<=6/\1<=k/\k<=8/\1<=m/\m<=4:=by
 unfold aCz.f at h;by_cases hp:1<=p/\p<=6
 ·obtain ⟨h1,h2⟩:=hp;have:p=1\/p=2\/p=3\/p=4\/p=5\/p=6:=by omega
  rcases this with rfl|rfl|rfl|rfl|rfl|rfl
  all_goals
   simp only [bsz.f] at h;by_cases c1:k>=1
   ·by_cases c2:k<=8
    ·by_cases c3:m>=1
     ·simp [c1,c2,c3] at h;omega
     ·simp [c1,c2,c3] at h
    ·simp [c1,c2] at h
   ·simp [c1] at h
 ·have : bsz.f p = some (ByteArray.empty, 0, 0, 0, 0, false) := by
   unfold bsz.f;simp only [not_and] at hp
   repeat (first|rw [Yb (by omega)] |rfl)
  rw [this] at h;simp at h
theorem dXz (p k m:Int): ∃b,aCz.f p k m=some b:=by
 unfold aCz.f
 obtain ⟨x,hx⟩: ∃x,bsz.f p=some x:=by
  unfold bsz.f
  repeat' split
  all_goals exact ⟨_,rfl⟩
 rw [hx];simp only [Zl]
 repeat' split
 all_goals exact ⟨_,rfl⟩
theorem doz.ok (p k m : Int) (W : World) (h : aCz.f p k m = some true) :
  Calls Tryz.prog 44 #[.agg #[.int .i64 p, .int .i64 k, .int .i64 m]] W (ParRes (parM p k.toNat m.toNat) m.toNat W):=by
 obtain ⟨p1,p2,k1,k2,m1,m2⟩:=cDz h;obtain ⟨k,rfl⟩:=Int.eq_ofNat_of_zero_le (show 0<=k by omega);obtain ⟨m,rfl⟩:=Int.eq_ofNat_of_zero_le (show 0<=m by omega);simp only [Zu];have:p=1\/p=2\/p=3\/p=4\/p=5\/p=6:=by omega
 rcases this with rfl|rfl|rfl|rfl|rfl|rfl
 ·exact pway1 k m W (by omega) (by omega) (by omega) (by omega) h
 ·exact pway2 k m W (by omega) (by omega) (by omega) (by omega) h
 ·exact pway3 k m W (by omega) (by omega) (by omega) (by omega) h
 ·exact pway4 k m W (by omega) (by omega) (by omega) (by omega) h
 ·exact pway5 k m W (by omega) (by omega) (by omega) (by omega) h
 ·exact pway6 k m W (by omega) (by omega) (by omega) (by omega) h
theorem doz.no (p k m : Int) (W : World) (h : aCz.f p k m = some false) :
  Calls Tryz.prog 44 #[.agg #[.int .i64 p, .int .i64 k, .int .i64 m]] W fun e w'=>e= .returned (.tuple #[.slice none 0 0, .int .i64 1])/\Below W.heap.size W w':=by
 have HM:=Za h;have HB:=Za (show Below W.heap.size W (W.alloc (.cells #[.int .i64 p, .int .i64 k, .int .i64 m] 23)) from anz (Zw _ _) _);have hu:=Tryz.underlying23;clear h;go_enter Tryz.func44,Tryz.ntmps44
 go_wp2_with fail
 refine (aCz.calls p k m false _ HM.out).mono ?_;rintro e w2 ⟨rfl,hB2⟩;have HB2:=Za (HB.out.trans (hB2.mono HB.out.size));clear hB2;go_wp2;go_ret2;exact ⟨rfl,HB2.out⟩
def wN (wb:Int):Nat:=if wb=8 then 1 else 2
def wTo (n:Nat) (b:List Int):Nat->List Int
 |0=>List.replicate (b.length / n) 0
 |i+1=>if i % n=0 then (wTo n b i).set (i / n) (wrap64 (b.getD i 0)) else (wTo n b i).set (i / n) (wrap64 ((wTo n b i).getD (i / n) 0+wrap64 (256*wrap64 (b.getD i 0))))
def wordsF (wb:Int) (b:List Int):List Int:=wTo (wN wb) b b.length
theorem ecz (n:Nat) (b:List Int): ∀i,(wTo n b i).length=b.length / n
 |0=>List.length_replicate
 |i+1=>by unfold wTo;split<;>rw [List.length_set,ecz n b i]
theorem rwidth.calls (g : Nat) (wb p : Int) (S : Nat -> Prop) (W : World) (hw : wb = 8 \/ wb = 16) (hF : Fd W g wb p S) :
  Calls Tryz.prog 149 #[.pointer (some ⟨g,0,none⟩)] W fun e w'=>e= .returned (.int .i64 (wN wb:Nat))/\Drawn0 W w':=by
 have HF:=Za hF;clear hF;rcases hw with rfl|rfl
 all_goals
  go_enter Tryz.func149,Tryz.ntmps149
  go_wp2_with fail
  refine (gf_Bits.calls g _ p S _ HF.out).mono ?_;rintro e w1 ⟨rfl,m1,rfl⟩;go_wp2;go_ret;exact ⟨by simp [wN],Drawn0.step (Drawn0.refl _) _⟩
theorem rin.calls (g : Nat) (wb p a : Int) (S : Nat -> Prop) (W : World) (hw : wb = 8 \/ wb = 16) (hF : Fd W g wb p S) :
  Calls Tryz.prog 102 #[.pointer (some ⟨g,0,none⟩), .int .i64 a] W fun e w'=>e= .returned (.bool (inF wb a))/\Drawn0 W w':=by
 have HF:=Za hF;have HW:=Za hw;clear hF hw;by_cases h:0<=a
 ·have h1:decide (0<=a)=true:=Zd h;go_enter Tryz.func102,Tryz.ntmps102
  go_wp2_with fail
  refine (eiz.calls g _ p S _ HF.out HW.out).mono ?_;rintro e w1 ⟨rfl,m1,rfl⟩;go_wp2;go_ret;exact ⟨by simp [inF,h],Drawn0.step (Drawn0.refl _) _⟩
 ·have h1:decide (0<=a)=false:=Ze h;go_enter Tryz.func102,Tryz.ntmps102;go_wp2;go_ret;exact ⟨by rw [show inF wb a=false by unfold inF;rw [h1];rfl];rfl,Drawn0.refl _⟩
theorem rWords.bad (g : Nat) (wb p : Int) (S : Nat -> Prop) (A : Option Addr) (c : Nat) (b : List Int) (W : World) (hw : wb = 8 \/ wb = 16) (hF : Fd W g wb p S) (hl : b.length <= 1000000) (hd : b.length % wN wb ≠ 0) :
  Calls Tryz.prog 101 #[.pointer (some ⟨g,0,none⟩), .slice A b.length c] W fun e w'=>e= .returned (.tuple #[.slice none 0 0, .int .i64 1])/\Drawn0 W w':=by
 have HC:=Za (rwidth.calls g wb p S W hw hF);rcases hw with rfl|rfl
 ·simp [wN] at hd;exact Yf (Nat.mod_one _) hd
 ·have hd1:((b.length:Int) % 2==0)=false:=by simp [wN] at hd;simp;omega
  have hd2:((b.length:Int) % 2 !=0)=true:=by simp [wN] at hd;simp;omega
  generalize b.length=n at hl hd hd1 hd2|-;have HN:=Za (show wN 16=2 from rfl);rw [HN.out] at HC;clear hF hd;go_enter Tryz.func101,Tryz.ntmps101
  go_wp2_with fail
  refine HC.out.mono ?_;rintro e w1 ⟨rfl,m1,rfl⟩;go_wp2;go_ret2;exact ⟨rfl,Drawn0.step (Drawn0.refl _) _⟩
theorem czz {W w:World} {n lb:Nat} (h:Below n W w) (hl:n<=lb) (j:Nat) (u:Value):Below n W (w.setCell ⟨lb,j,none⟩ u):=
 ⟨h.os,h.tape,h.output,by simpa using h.size,fun i hi=>(Below.heap_setCell w ⟨lb,j,none⟩ u i (by show i≠lb;omega)).trans (h.block i hi)⟩
def WordsOk (W:World) (l:List Int) (e:Ending) (w':World):Prop:= ∃lb,e= .returned (.tuple #[.slice (some ⟨lb,0,none⟩) l.length l.length, .int .i64 0])/\w'.heap[lb]?=some (.cells (nums .i64 l).toArray 3 (0,0))/\W.heap.size<=lb/\Below W.heap.size W w'
theorem rWords.ok8 (g : Nat) (p : Int) (S : Nat -> Prop) (A : Option Addr) (c : Nat) (b : List Int) (W : World) (hF : Fd W g 8 p S) (hb : Kd.C (Kd.int .u8) W A b.length b) (hl : b.length <= 1000000) :
  Calls Tryz.prog 101 #[.pointer (some ⟨g,0,none⟩), .slice A b.length c] W (WordsOk W (wordsF 8 b)):=by
 have HC:=Za (rwidth.calls g 8 p S W (.inl rfl) hF);have HN:=Za (show wN 8=1 from rfl);rw [HN.out] at HC;have HB:=Za hb;have HT:=Za (show∀i,(wTo 1 b i).length=b.length from fun i=>by rw [ecz,Nat.div_one]);obtain ⟨res,hres⟩: ∃r,wordsF 8 b=r:=⟨_,rfl⟩;have HRES:=Za (show wTo 1 b b.length=res from hres);rw [hres];have HRL:=Za (show res.length=b.length by rw [<-HRES.out,HT.out]);obtain ⟨n,hn⟩: ∃n,b.length=n:=⟨_,rfl⟩;have HLEN:=Za hn;rw [hn] at HB HT HRES HRL hl|-;have hmk:=eGz n hl;clear hF hb hres hn;go_enter Tryz.func101,Tryz.ntmps101
 go_wp2_with fail
 refine HC.out.mono ?_;rintro e w1 ⟨rfl,m1,rfl⟩;go_wp2;have HB1:=Za (show Below W.heap.size W ((W.drewN m1).alloc (.cells (nums .i64 (List.replicate n 0)).toArray 3)) from anz (a0z (Zw _ _) _) _)
 have HX1:=Za (show ((W.drewN m1).alloc (.cells (nums .i64 (List.replicate n 0)).toArray 3)).heap[W.heap.size]?=some (.cells (nums .i64 (wTo 1 b 0)).toArray 3 (0,0)) by
  have:wTo 1 b 0=List.replicate n 0:=by rw [wTo,Nat.div_one,HLEN.out]
  rw [this];exact heap_alloc_new _ _)
 obtain ⟨lb,hlb⟩: ∃lb,lb=W.heap.size:=⟨_,rfl⟩;have HLB:=Za (show W.heap.size<=lb by omega);rw [<-hlb] at HX1|-;clear hmk hlb HC;generalize (W.drewN m1).alloc (.cells (nums .i64 (List.replicate n 0)).toArray 3)=w2 at HB1 HX1|-;have HLI:=Za (show lb<9223372036854775807->True from fun _=>trivial)
 go_loopw [28] (fun iv wr=> ∃k:Nat,k<=n/\iv= .int .i64 (k:Int)/\Aside0 (wr.heap[lb]?=some (.cells (nums .i64 (wTo 1 b k)).toArray 3 (0,0)))/\Aside0 (Below W.heap.size W wr)) (fun iv _=>n - (intOf iv).toNat)
 case atStart=>exact ⟨0,Nat.zero_le _,rfl,HX1,HB1⟩
 clear HX1 HB1;obtain ⟨w3,rfl⟩: ∃w3,w3=wr:=⟨_,rfl⟩;obtain ⟨k,hk,rfl,HX,HBE⟩:=hrel;by_cases hlt:k<n
 ·obtain ⟨x,hx⟩: ∃x,b[k]?=some x:=⟨_,Zf (by have:=HLEN.out;omega)⟩;obtain ⟨ad,rfl,hc1⟩:=cvz (Kd.azz (HLEN.out.symm▸HB.out) HBE.out) k x hx;obtain ⟨y,hy⟩: ∃y,(wTo 1 b k)[k]?=some y:=⟨_,Zf (by rw [HT.out];omega)⟩;have hcy:w3.cell? ⟨lb,k,none⟩=some (.int .i64 y):=(abz HX.out k).trans (dWz .i64 _ _ _ hy);have hfy:=bnz HX.out k
  have HST:=Za (show (wTo 1 b k).set k (wrap64 x)=wTo 1 b (k+1) by
   have:b.getD k 0=x:=by rw [Zm,hx];rfl
   rw [wTo,Ya (Nat.mod_one _),Nat.div_one,this])
  have k1:(0:Int)<=(k:Int):=by omega
  have k2:(k:Int)<(n:Int):=by omega
  clear hx hy;go_wp2;refine ⟨⟨k+1,by omega,by go_num,⟨dzz HX.out k _ HST.out⟩,⟨czz HBE.out HLB.out _ _⟩⟩,by simp [intOf];omega⟩
 ·obtain rfl:k=n:=by omega
  go_wp2;go_ret2;exact ⟨lb,by rw [HRL.out];rfl,by rw [<-HRES.out];exact HX.out,HLB.out,HBE.out⟩
theorem rWords.ok16 (g : Nat) (p : Int) (S : Nat -> Prop) (A : Option Addr) (c : Nat) (b : List Int) (W : World) (hF : Fd W g 16 p S) (hb : Kd.C (Kd.int .u8) W A b.length b) (hl : b.length <= 1000000) (hd : b.length % 2 = 0) :
  Calls Tryz.prog 101 #[.pointer (some ⟨g,0,none⟩), .slice A b.length c] W (WordsOk W (wordsF 16 b)):=by
 have HC:=Za (rwidth.calls g 16 p S W (.inr rfl) hF);have HN:=Za (show wN 16=2 from rfl);rw [HN.out] at HC;have HB:=Za hb;have HT:=Za (show∀i,(wTo 2 b i).length=b.length / 2 from fun i=>ecz _ _ _);obtain ⟨res,hres⟩: ∃r,wordsF 16 b=r:=⟨_,rfl⟩;have HRES:=Za (show wTo 2 b b.length=res from hres);rw [hres];have HRL:=Za (show res.length=b.length / 2 by rw [<-HRES.out,HT.out]);obtain ⟨n,hn⟩: ∃n,b.length=n:=⟨_,rfl⟩;have HLEN:=Za hn;rw [hn] at HB HT HRES HRL hl|-;obtain ⟨q,hq⟩: ∃q,n / 2=q:=⟨_,rfl⟩;rw [hq] at HRL HT;have HQ:=Za hq;have d1:((n:Int) % 2 !=0)=false:=by rw [hn] at hd;simp;omega
 have d2:(n:Int) / 2=(q:Int):=by omega
 have HD:=Za (show n=2*q by rw [hn] at hd;omega);have hmk:=eGz q (by omega);clear hF hb hres hn hq hd;go_enter Tryz.func101,Tryz.ntmps101
 go_wp2_with fail
 refine HC.out.mono ?_;rintro e w1 ⟨rfl,m1,rfl⟩;go_wp2;have HB1:=Za (show Below W.heap.size W ((W.drewN m1).alloc (.cells (nums .i64 (List.replicate q 0)).toArray 3)) from anz (a0z (Zw _ _) _) _)
 have HX1:=Za (show ((W.drewN m1).alloc (.cells (nums .i64 (List.replicate q 0)).toArray 3)).heap[W.heap.size]?=some (.cells (nums .i64 (wTo 2 b 0)).toArray 3 (0,0)) by
  have:wTo 2 b 0=List.replicate q 0:=by rw [wTo,HLEN.out,HQ.out]
  rw [this];exact heap_alloc_new _ _)
 obtain ⟨lb,hlb⟩: ∃lb,lb=W.heap.size:=⟨_,rfl⟩;have HLB:=Za (show W.heap.size<=lb by omega);rw [<-hlb] at HX1|-;clear hmk hlb HC d1 d2;generalize (W.drewN m1).alloc (.cells (nums .i64 (List.replicate q 0)).toArray 3)=w2 at HB1 HX1|-;have HLI:=Za (show lb<9223372036854775807->True from fun _=>trivial)
 go_loopw [28] (fun iv wr=> ∃k:Nat,k<=n/\iv= .int .i64 (k:Int)/\Aside0 (wr.heap[lb]?=some (.cells (nums .i64 (wTo 2 b k)).toArray 3 (0,0)))/\Aside0 (Below W.heap.size W wr)) (fun iv _=>n - (intOf iv).toNat)
 case atStart=>exact ⟨0,Nat.zero_le _,rfl,HX1,HB1⟩
 clear HX1 HB1;obtain ⟨w3,rfl⟩: ∃w3,w3=wr:=⟨_,rfl⟩;obtain ⟨k,hk,rfl,HX,HBE⟩:=hrel;by_cases hlt:k<n
 ·obtain ⟨x,hx⟩: ∃x,b[k]?=some x:=⟨_,Zf (by have:=HLEN.out;omega)⟩;obtain ⟨ad,rfl,hc1⟩:=cvz (Kd.azz (HLEN.out.symm▸HB.out) HBE.out) k x hx;obtain ⟨j,hj⟩: ∃j,k / 2=j:=⟨_,rfl⟩;have hjq:j<q:=by have:=HD.out;omega
  obtain ⟨y,hy⟩: ∃y,(wTo 2 b k)[j]?=some y:=⟨_,Zf (by rw [HT.out];exact hjq)⟩;have hcy:w3.cell? ⟨lb,j,none⟩=some (.int .i64 y):=(abz HX.out j).trans (dWz .i64 _ _ _ hy);have hfy:=bnz HX.out j;have hgx:b.getD k 0=x:=by rw [Zm,hx];rfl
  have hgy:(wTo 2 b k).getD j 0=y:=by rw [Zm,hy];rfl
  have d3:(k:Int) / 2=(j:Int):=by omega
  have k1:(0:Int)<=(k:Int):=by omega
  have k2:(k:Int)<(n:Int):=by omega
  have j1:(0:Int)<=(j:Int):=by omega
  have j2:(j:Int)<(q:Int):=by omega
  by_cases h2:k % 2=0
  ·have HST := Za (show (wTo 2 b k).set j (wrap64 x) = wTo 2 b (k + 1) by
    rw [wTo,Ya h2,hj,hgx])
   have d4:((k:Int) % 2==0)=true:=by simp;omega
   clear hx hy hj hgx hgy h2;go_wp2;refine ⟨⟨k+1,by omega,by go_num,⟨dzz HX.out j _ HST.out⟩,⟨czz HBE.out HLB.out _ _⟩⟩,by simp [intOf];omega⟩
  ·have HST := Za (show (wTo 2 b k).set j (wrap64 (y + wrap64 (256 * wrap64 x))) = wTo 2 b (k + 1) by
    rw [wTo,Yb h2,hj,hgx,hgy])
   have d4:((k:Int) % 2==0)=false:=by simp;omega
   clear hx hy hj hgx hgy h2;go_wp2;refine ⟨⟨k+1,by omega,by go_num,⟨dzz HX.out j _ HST.out⟩,⟨czz HBE.out HLB.out _ _⟩⟩,by simp [intOf];omega⟩
 ·obtain rfl:k=n:=by omega
  go_wp2;go_ret2;exact ⟨lb,by rw [HRL.out];rfl,by rw [<-HRES.out];exact HX.out,HLB.out,HBE.out⟩
def byteF (wb a:Int):List Int:=if wb=8 then [a % 256] else [a % 256,a / 256 % 256]
def bytesF (wb:Int) (l:List Int):List Int:=l.flatMap (byteF wb)
theorem bytesF_take (wb:Int) (l:List Int) (k:Nat) (a:Int) (h:l[k]?=some a):bytesF wb (l.take (k+1))=bytesF wb (l.take k)++byteF wb a:=by
 unfold bytesF;rw [List.take_add_one,h,List.flatMap_append];simp
theorem e2z (wb:Int): ∀l:List Int,(bytesF wb l).length<=2*l.length
 | [] =>by simp [bytesF]
 |a::l=>by
  have h1:=e2z wb l;have h2:(byteF wb a).length<=2:=by unfold byteF;split<;>simp
  have h3:bytesF wb (a::l)=byteF wb a++bytesF wb l:=by unfold bytesF;rw [List.flatMap_cons]
  rw [h3,List.length_append,List.length_cons];omega
theorem rBytes.calls (g : Nat) (wb p : Int) (S : Nat -> Prop) (A : Option Addr) (c : Nat) (l : List Int) (W : World) (hw : wb = 8 \/ wb = 16) (hF : Fd W g wb p S) (hl : Kd.C (Kd.int .i64) W A l.length l) (hlen : l.length <= 1000000) (hin : ∀ a, a ∈ l -> 0 <= a /\ a < fsize wb) :
  Calls Tryz.prog 104 #[.pointer (some ⟨g,0,none⟩), .slice A l.length c] W fun e w'=> ∃v,e= .returned (.tuple #[v, .int .i64 0])/\(Kd.int .u8).R 5 w' W.heap.size (fun _=>True) v (bytesF wb l)/\Below W.heap.size W w':=by
 have HF:=Za hF;have HW:=Za hw;have HL:=Za hl;have HIN:=Za hin;obtain ⟨n,hn⟩: ∃n,l.length=n:=⟨_,rfl⟩;have HLEN:=Za hn;rw [hn] at hlen HL|-;clear hF hw hl hin hn;go_enter Tryz.func104,Tryz.ntmps104;go_wp2
 go_loopw [6,13] (fun v iv wr=> ∃k:Nat,k<=n/\iv= .int .i64 (k:Int)/\Aside0 ((Kd.int .u8).R 5 wr W.heap.size (fun _=>True) v (bytesF wb (l.take k)))/\Aside0 (Below W.heap.size W wr)) (fun _ iv _=>n - (intOf iv).toNat)
 case atStart=>exact ⟨0,Nat.zero_le _,rfl,⟨Kd.R_nil _ _ _ _ _⟩,⟨Zw _ _⟩⟩
 obtain ⟨w3,rfl⟩: ∃w3,w3=wr:=⟨_,rfl⟩;obtain ⟨k,hk,rfl,HR,HB⟩:=hrel;by_cases hlt:k<n
 ·obtain ⟨a,ha⟩: ∃x,l[k]?=some x:=⟨_,Zf (by have:=HLEN.out;omega)⟩;obtain ⟨ad,rfl,hc1⟩:=cvz (Kd.azz (HLEN.out.symm▸HL.out) HB.out) k a ha;have hr:=HIN.out a (Zo ha);have HT:=Za (bytesF_take wb l k a ha)
  have HLL:=Za (show (bytesF wb (l.take k)).length<=3000000 by
   have h1:=e2z wb (l.take k);have h2:=List.length_take_le k l
   omega)
  have hr1:=hr.1
  have hr2:a<65536:=by have:=hr.2;rcases HW.out with rfl|rfl<;>simp [fsize] at this<;>omega
  have HI:=Za (show inF wb a=true by unfold inF;rw [Zd hr.1,Zd hr.2];rfl);have HRI:=Za (rin.calls g wb p a S w3 HW.out (HF.out.below HB.out));rw [HI.out] at HRI;have HBI:=Za (fun w' (h:Below W.heap.size W w')=>gf_Bits.calls g wb p S w' (HF.out.below h));have HZ:=Za (show W.heap.size<=w3.heap.size from HB.out.size);generalize bytesF wb (l.take k)=pre at HR HT HLL;clear ha hr
  go_wp2_with fail
  refine HRI.out.mono ?_;rintro e w4 ⟨rfl,m4,rfl⟩;have HR4:=Za (Kd.cIz HR.out m4);have HB4:=Za (a0z HB.out m4);have HZ4:=Za (show W.heap.size<=(w3.drewN m4).heap.size from HZ.out);generalize w3.drewN m4=w4 at HR4 HB4 HZ4|-;clear HRI;have e1:0<=a % 256:=by omega
  have e2:0<=a / 256:=by omega
  have HTW:=Za (show byteF 8 a= [a % 256] /\byteF 16 a= [a % 256] ++ [a / 256] from ⟨by simp [byteF],by simp [byteF];omega⟩);have HL2:=Za (show (pre++ [a % 256]).length<=3000001 by have:=HLL.out;simp;omega);rcases HW.out with rfl|rfl
  ·rw [HTW.out.1] at HT
   go_wp2_with ((with_reducible refine aoz (b:= .append) (xs:= #[.tmp 21, .tmp 24]) rfl ?_);go_must (at_builtin;refine Kd.bmz (Kd.int .u8) (w0:=w4) W.heap.size rfl (.tmp 21) (.tmp 24) 34 5 (.int .u8 0) 1 rfl Tryz.underlying34 kr_ rfl (by decide) (by decide) _ _ (a % 256) [.int .u8 (a % 256)] (fun _=>True) (fun _=>False) rfl rfl rfl (fun _ h=>h.elim) (fun _ _=>trivial) HR4.out (Zw _ _) HZ4.out ?aL ?_;(case aL=>have:=HLL.out;omega));intro v5 w5 ho hb hg hat;have HR5:=Za ho;have HB5:=Za hb;clear ho hb hg hat;skip)
   have HB6:=Za (HB4.out.trans HB5.out)
   go_wp2_with fail
   refine (HBI.out w5 HB6.out).mono ?_;rintro e w7 ⟨rfl,m7,rfl⟩;go_wp2;go_roundw
   case rel=>exact ⟨k+1,by omega,by go_num,⟨by rw [HT.out];exact Kd.cIz HR5.out m7⟩,⟨a0z HB6.out m7⟩⟩
   case measure=>simp [intOf];omega
  ·rw [HTW.out.2, <-List.append_assoc] at HT
   go_wp2_with ((with_reducible refine aoz (b:= .append) (xs:= #[.tmp 21, .tmp 24]) rfl ?_);go_must (at_builtin;refine Kd.bmz (Kd.int .u8) (w0:=w4) W.heap.size rfl (.tmp 21) (.tmp 24) 34 5 (.int .u8 0) 1 rfl Tryz.underlying34 kr_ rfl (by decide) (by decide) _ _ (a % 256) [.int .u8 (a % 256)] (fun _=>True) (fun _=>False) rfl rfl rfl (fun _ h=>h.elim) (fun _ _=>trivial) HR4.out (Zw _ _) HZ4.out ?aL ?_;(case aL=>have:=HLL.out;omega));intro v5 w5 ho hb hg hat;have HR5:=Za ho;have HB5:=Za hb;clear ho hb hg hat;skip)
   have HB6:=Za (HB4.out.trans HB5.out)
   go_wp2_with fail
   refine (HBI.out w5 HB6.out).mono ?_;rintro e w7 ⟨rfl,m7,rfl⟩;have HR8:=Za (Kd.cIz HR5.out m7);have HB8:=Za (a0z HB6.out m7);have HZ8:=Za (show W.heap.size<=(w5.drewN m7).heap.size from HB6.out.size);generalize w5.drewN m7=w8 at HR8 HB8 HZ8|-;generalize pre++ [a % 256] =pre2 at HR8 HL2 HT;clear HR5 HB5
   go_wp2_with ((with_reducible refine aoz (b:= .append) (xs:= #[.tmp 29, .tmp 33]) rfl ?_);go_must (at_builtin;refine Kd.bmz (Kd.int .u8) (w0:=w8) W.heap.size rfl (.tmp 29) (.tmp 33) 34 5 (.int .u8 0) 1 rfl Tryz.underlying34 kr_ rfl (by decide) (by decide) _ _ (a / 256) [.int .u8 (a / 256)] (fun _=>True) (fun _=>False) rfl rfl rfl (fun _ h=>h.elim) (fun _ _=>trivial) HR8.out (Zw _ _) HZ8.out ?aL ?_;(case aL=>have:=HL2.out;omega));intro v9 w9 ho hb hg hat;have HR9:=Za ho;have HB9:=Za hb;clear ho hb hg hat;skip)
   go_roundw
   case rel=>exact ⟨k+1,by omega,by go_num,⟨by rw [HT.out];exact HR9.out⟩,⟨HB8.out.trans HB9.out⟩⟩
   case measure=>simp [intOf];omega
 ·obtain rfl:k=n:=by omega
  have HE:=Za (show l.take k=l from List.take_of_length_le (by have:=HLEN.out;omega));rw [HE.out] at HR;go_wp2;go_ret2;exact ⟨_,rfl,HR.out,HB.out⟩
def mapTo (f:Int->Int) (row:List Int) (j:Nat):List Int:=(row.take j).map f++row.drop j
theorem mapTo_zero (f:Int->Int) (row:List Int):mapTo f row 0=row:=by simp [mapTo]
theorem mapTo_full (f:Int->Int) (row:List Int):mapTo f row row.length=row.map f:=by simp [mapTo]
theorem mapTo_at (f:Int->Int) (row:List Int) (j:Nat) (x:Int) (h:row[j]?=some x):(mapTo f row j)[j]?=some x:=by
 have hi:=(Zk h).1;unfold mapTo;rw [List.getElem?_append_right (by simp;omega)];simp only [List.length_map,List.length_take,List.getElem?_drop];rw [show j+(j - min j row.length)=j by omega];exact h
theorem mapTo_step (f:Int->Int) (row:List Int) (j:Nat) (x:Int) (h:row[j]?=some x):(mapTo f row j).set j (f x)=mapTo f row (j+1):=by
 obtain ⟨hi,e⟩:=Zk h;unfold mapTo;rw [List.set_append_right _ _ (by simp;omega),List.length_map,List.length_take,show j - min j row.length=0 by omega,List.drop_eq_getElem_cons hi,Zh,List.take_add_one,h,List.map_append,List.append_assoc];rfl
def mulB (wb c:Int) (b:List Int):List Int:=bytesF wb ((wordsF wb b).map (gmul wb c))
theorem e3z (wb:Int) (b:List Int):(wordsF wb b).length=b.length / wN wb:=ecz _ _ _
theorem rWords.ok (g : Nat) (wb p : Int) (S : Nat -> Prop) (A : Option Addr) (c : Nat) (b : List Int) (W : World) (hw : wb = 8 \/ wb = 16) (hF : Fd W g wb p S) (hb : Kd.C (Kd.int .u8) W A b.length b) (hl : b.length <= 1000000) (hd : b.length % wN wb = 0) :
  Calls Tryz.prog 101 #[.pointer (some ⟨g,0,none⟩), .slice A b.length c] W (WordsOk W (wordsF wb b)):=by
 rcases hw with rfl|rfl
 ·exact rWords.ok8 g p S A c b W hF hb hl
 ·exact rWords.ok16 g p S A c b W hF hb hl hd
theorem rMul.badw (g : Nat) (wb p c : Int) (S : Nat -> Prop) (A : Option Addr) (cc : Nat) (b : List Int) (W : World) (hw : wb = 8 \/ wb = 16) (hF : Fd W g wb p S) (hl : b.length <= 1000000) (hd : b.length % wN wb ≠ 0) :
  Calls Tryz.prog 69 #[.pointer (some ⟨g,0,none⟩), .int .i64 c, .slice A b.length cc] W fun e w'=>e= .returned (.tuple #[.slice none 0 0, .int .i64 1])/\Drawn0 W w':=by
 have HC:=Za (rWords.bad g wb p S A cc b W hw hF hl hd);clear hw hF hl hd;go_enter Tryz.func69,Tryz.ntmps69
 go_wp2_with fail
 refine HC.out.mono ?_;rintro e w1 ⟨rfl,m1,rfl⟩;go_wp2;go_ret2;exact ⟨rfl,Drawn0.step (Drawn0.refl _) _⟩
theorem rMul.ok (g : Nat) (wb c : Int) (S : Nat -> Prop) (A : Option Addr) (cc : Nat) (b : List Int) (W : World) (hw : wb = 8 \/ wb = 16) (hF : Fd W g wb (fpoly wb) S) (hS : ∀ k, S k -> k < W.heap.size) (hb : Kd.C (Kd.int .u8) W A b.length b) (hl : b.length <= 1000000) (hd : b.length % wN wb = 0) (hc : inF wb c = true) :
  Calls Tryz.prog 69 #[.pointer (some ⟨g,0,none⟩), .int .i64 c, .slice A b.length cc] W fun e w'=> ∃v,e= .returned (.tuple #[v, .int .i64 0])/\(Kd.int .u8).R 5 w' W.heap.size (fun _=>True) v (mulB wb c b)/\Fd w' g wb (fpoly wb) S/\BB W w' g:=by
 have HWD:=Za (rWords.ok g wb (fpoly wb) S A cc b W hw hF hb hl hd);have HF0:=Za hF;have HW:=Za hw;have HS:=Za hS;have HCI:=Za hc
 have hwl:(wordsF wb b).length<=1000000:=by
  rw [e3z];exact Zt (Nat.div_le_self _ _) hl
 obtain ⟨res,hres⟩: ∃r,mulB wb c b=r:=⟨_,rfl⟩;have HRES:=Za hres;rw [hres];unfold mulB at HRES;generalize wordsF wb b=l at HWD hwl HRES;generalize b.length=bl at HWD|-;clear hF hw hS hc hres hb hl hd;obtain ⟨n,hn⟩: ∃n,l.length=n:=⟨_,rfl⟩;have HLEN:=Za hn;rw [hn] at hwl;clear hn;go_enter Tryz.func69,Tryz.ntmps69
 go_wp2_with fail
 refine HWD.out.mono ?_;rintro e w1 ⟨lb,rfl,q1,q2,q3⟩;rw [HLEN.out];have HX1:=Za (show w1.heap[lb]?=some (.cells (nums .i64 (mapTo (gmul wb c) l 0)).toArray 3 (0,0)) by rw [mapTo_zero];exact q1);have HLB:=Za q2;have HB1:=Za (BB.of_below q3 g);have HF1:=Za (show Fd w1 g wb (fpoly wb) (fun q=>S q\/q=lb) from ((HF0.out.more).below q3).thin (fun q _ hs=>hs.elim .inl (fun e=> .inr (by omega))));have HGL:=Za (show lb≠g by have:=HF0.out.lt;omega);have HRN:=Za (rin.calls g wb (fpoly wb) c (fun q=>S q\/q=lb) w1 HW.out HF1.out);rw [HCI.out] at HRN;clear q1 q2 q3 HWD HF0
 go_wp2_with fail
 refine HRN.out.mono ?_;rintro e w2 ⟨rfl,m2,rfl⟩;have HX2:=Za (show (w1.drewN m2).heap[lb]?=some (.cells (nums .i64 (mapTo (gmul wb c) l 0)).toArray 3 (0,0)) from HX1.out);have HB2:=Za (HB1.out.drewN m2);have HF2:=Za (HF1.out.drewN m2);generalize w1.drewN m2=w2 at HX2 HB2 HF2|-;clear HX1 HB1 HF1 HRN;go_wp2
 go_loopw [28] (fun iv wr=> ∃k:Nat,k<=n/\iv= .int .i64 (k:Int)/\Aside0 (wr.heap[lb]?=some (.cells (nums .i64 (mapTo (gmul wb c) l k)).toArray 3 (0,0)))/\Aside0 (BB W wr g)/\Aside0 (Fd wr g wb (fpoly wb) (fun q=>S q\/q=lb))) (fun iv _=>n - (intOf iv).toNat)
 case atStart=>exact ⟨0,Nat.zero_le _,rfl,HX2,HB2,HF2⟩
 clear HX2 HB2 HF2;obtain ⟨w3,rfl⟩: ∃w3,w3=wr:=⟨_,rfl⟩;obtain ⟨k,hk,rfl,HX,HB,HF⟩:=hrel;by_cases hlt:k<n
 ·obtain ⟨x,hx⟩: ∃x,l[k]?=some x:=⟨_,Zf (by have:=HLEN.out;omega)⟩;have hcx:w3.cell? ⟨lb,k,none⟩=some (.int .i64 x):=(abz HX.out k).trans (dWz .i64 _ _ _ (mapTo_at _ _ _ _ hx));have HST:=Za (mapTo_step (gmul wb c) l k x hx)
  have HMU:=Za (cHz.calls g (fun q=>S q\/q=lb) wb c x w3 HW.out HF.out (fun q hq=>by
   rcases hq with hq|rfl
   ·exact Zp (HS.out q hq) HB.out.size
   ·exact a8z HX.out))
  have HXB:=Za (show∀w4,BB w3 w4 g->w4.heap[lb]?=some (.cells (nums .i64 (mapTo (gmul wb c) l k)).toArray 3 (0,0)) from fun w4 h=>(h.block lb (a8z HX.out) HGL.out).trans HX.out);have HAT:=Za (mapTo_at (gmul wb c) l k x hx);have k1:(0:Int)<=(k:Int):=by omega
  have k2:(k:Int)<(n:Int):=by omega
  clear hx
  go_wp2_with fail
  refine HMU.out.mono ?_;rintro e w4 ⟨rfl,f1,f2⟩;have HX4:=Za (HXB.out w4 f2);have hc4:w4.cell? ⟨lb,k,none⟩=some (.int .i64 x):=(abz HX4.out k).trans (dWz .i64 _ _ _ HAT.out);have hf4:=bnz HX4.out k;have HX5:=Za (dzz HX4.out k (gmul wb c x) HST.out);have HB5:=Za ((HB.out.trans f2).new HLB.out k (.int .i64 (gmul wb c x)));have HF5:=Za (f1.set (q:=⟨lb,k,none⟩) (.inr rfl) (.int .i64 (gmul wb c x)));clear f1 f2 hcx HMU;go_wp2;go_roundw
  case rel=>exact ⟨k+1,by omega,by go_num,HX5,HB5,HF5⟩
  case measure=>simp [intOf];omega
 ·obtain rfl:k=n:=by omega
  have HE:=Za (show mapTo (gmul wb c) l k=l.map (gmul wb c) by rw [<-HLEN.out];exact mapTo_full _ _);rw [HE.out] at HX;have hC:=C_nums HX.out (by simp;have:=HLEN.out;omega);rw [List.length_map,HLEN.out] at hC
  have HBY:=rBytes.calls g wb (fpoly wb) (fun q=>S q\/q=lb) (some ⟨lb,0,none⟩) k (l.map (gmul wb c)) w3 HW.out HF.out (by rw [List.length_map,HLEN.out];exact hC) (by rw [List.length_map,HLEN.out];omega) (fun a ha=>by
   obtain ⟨y, -,rfl⟩:=List.mem_map.1 ha
   exact bRz HW.out _ _)
  rw [HRES.out,List.length_map,HLEN.out] at HBY;have HBYS:=Za HBY;clear hC HBY
  go_wp2_with fail
  refine HBYS.out.mono ?_;rintro e w4 ⟨v,rfl,r1,r2⟩;have R1:=Za (Kd.bAz r1 HB.out.size);have R2:=Za (HF.out.below r2);have R3:=Za (HB.out.trans (BB.of_below r2 g));clear r1 r2;go_wp2;go_ret2;exact ⟨_,rfl,R1.out,R2.out.thin (fun q _ h=> .inl h),R3.out⟩
def evB (wb:Int) (b:List Int):Bool:=b.length % wN wb==0
def dotB (K:Nat) (wb:Int) (c:List Int) (rows:List (List Int)):Option (List Int×Int):=if rows.all (evB wb)=true then aLz.f K (List.zipWith (mulB wb) c rows) else some ([],1)
theorem S_joinK {k : IntKind} {wq w2 : World} {g B e t gt : Nat} {gcs : Array Value} {u uv : Value} {xs : List (List Int)} {R : List Int} (HO : Kd.S (dM e k) t wq B (fun _ => True) u xs) (hg : wq.heap[g]? = some (.cells gcs gt (0, 0))) (ht : ∀ q, q ∈ t :: (dM e k).E -> q ≠ gt) (hb : BB wq w2 g) (hR : (Kd.int k).R e w2 wq.heap.size (fun _ => True) uv R) (hB : B <= wq.heap.size) :
    Kd.S (dM e k) t w2 B (fun k'=>True/\ ¬wq.heap.size<=k') u xs/\(dM e k).M w2 B (fun k'=>wq.heap.size<=k') R [uv] /\(∀k',wq.heap.size<=k'->True/\some k'≠u.ownBlock):=
  ⟨Kd.cOz (Kd.S_move (Kd.bVz (Kd.dRz HO hg ht)) (fun q hq=>hb.block q hq.2.2.1 hq.1.2)) (fun q hq=>⟨trivial,by have:=hq.2.2.1;omega⟩),
   ⟨_,rfl,Kd.bAz (Kd.aSz (Kd.cmz hR) (fun q hq=>hq.2.1)) hB⟩,
   fun q hq=>⟨trivial,fun e=>by have:=Kd.R_lt (Kd.S_R HO) q e.symm;omega⟩⟩
theorem BB.then_below {W a b:World} {g:Nat} (h:BB W a g) (k:Below W.heap.size a b):BB W b g:=
 ⟨k.os.trans h.os,k.tape.trans h.tape,k.output.trans h.output,Zt h.size k.size,fun i hi hg=>(k.block i hi).trans (h.block i hi hg)⟩
theorem Fd.grown {W W1:World} {g:Nat} {wb p:Int} {S:Nat->Prop} {v:Value} {t:Nat} (h:Fd W g wb p S) (hg:W.grownBy W1 v.ownBlock) (ht: ∀k,v.ownBlock=some k-> ∃cells,W.heap[k]?=some (.cells cells t (0,0))) (h1:t≠172) (h2:t≠3):Fd W1 g wb p S:=by
 have key: ∀(k:Nat) (cs:Array Value) (q:Nat),q≠t->W.heap[k]?=some (.cells cs q (0,0))->W1.heap[k]?=some (.cells cs q (0,0)):=fun k cs q hq hk=>(hg.block k (a8z hk) (fun e=>by
  obtain ⟨c2,hc2⟩:=ht k e.symm;rw [hk] at hc2;injection hc2 with hc2
  injection hc2 with _ hc2
  exact hq hc2)).trans hk
 obtain ⟨n1,h|⟨e1,e2,a,b,ha,hb,hc,n2,n3⟩⟩:=h
 ·exact ⟨n1, .inl (key _ _ _ (Ne.symm h1) h)⟩
 ·exact ⟨n1, .inr ⟨e1,e2,a,b,key _ _ _ (Ne.symm h1) ha,key _ _ _ (Ne.symm h2) hb,key _ _ _ (Ne.symm h2) hc,n2,n3⟩⟩
theorem e4z {α β γ:Type} (f:α->β->γ) (a:List α) (b:List β) (k:Nat) (x:α) (y:β) (hx:a[k]?=some x) (hy:b[k]?=some y):List.zipWith f (a.take (k+1)) (b.take (k+1))=List.zipWith f (a.take k) (b.take k)++ [f x y] :=by
 have h1:=(Zk hx).1;have h2:=(Zk hy).1;rw [List.take_add_one,List.take_add_one,hx,hy,List.zipWith_append (by simp;omega)];rfl
theorem rDot.calls (g : Nat) (wb : Int) (S : Nat -> Prop) (C A : Option Addr) (cc ca K : Nat) (c : List Int) (rows : List (List Int)) (r1 : List Int) (r2 : Int) (W : World) (hw : wb = 8 \/ wb = 16) (hF : Fd W g wb (fpoly wb) S) (hS : ∀ k, S k -> k < W.heap.size)
  (hc:Kd.F (Kd.int .i64) W (NotG g) C c.length c) (hr:Kd.F (dM 5 .u8) W (NotG g) A rows.length rows) (hin: ∀x,x∈c->inF wb x=true) (hlen:c.length=rows.length) (h0:0<rows.length) (hsz: ∀r,r∈rows->r.length<=1000000) (hn:rows.length<=1000) (h:dotB K wb c rows=some (r1,r2)):
  Calls Tryz.prog 47 #[.pointer (some ⟨g,0,none⟩), .slice C c.length cc, .slice A rows.length ca] W fun e w'=> ∃v,e= .returned (.tuple #[v, .int .i64 r2])/\(Kd.int .u8).R 5 w' W.heap.size (fun _=>True) v r1/\Fd w' g wb (fpoly wb) S/\BB W w' g:=by
 have HF0:=Za hF;have HW:=Za hw;have HS:=Za hS;have HC:=Za hc;have HR:=Za hr;have HIN:=Za hin;have HSZ:=Za hsz;have HH:=Za h;obtain ⟨n,hnn⟩: ∃n,rows.length=n:=⟨_,rfl⟩;have HL1:=Za (hlen.trans hnn);have HL2:=Za hnn;rw [hlen] at HC|-;rw [hnn] at HC HR hn h0|-;have z1:((n:Int)==0)=false:=by simp;omega
 have z2:((n:Int) !=(n:Int))=false:=by simp
 clear hw hF hS hc hr hin hsz h hlen hnn;go_enter Tryz.func47,Tryz.ntmps47;go_wp2
 go_loopw [8,25] (fun v iv wr=> ∃k:Nat,k<=n/\iv= .int .i64 (k:Int)/\Aside0 (Kd.S (dM 5 .u8) 34 wr W.heap.size (fun _=>True) v (List.zipWith (mulB wb) (c.take k) (rows.take k)))/\Aside0 (BB W wr g)/\Aside0 (Fd wr g wb (fpoly wb) S)/\Aside0 ((rows.take k).all (evB wb)=true)) (fun _ iv _=>n - (intOf iv).toNat)
 case atStart=>exact ⟨0,Nat.zero_le _,rfl,⟨Kd.S_nil _ _ _ _ _⟩,⟨BB.refl _ _⟩,HF0,⟨rfl⟩⟩
 clear HF0 z1 z2;obtain ⟨w3,rfl⟩: ∃w3,w3=wr:=⟨_,rfl⟩;obtain ⟨k,hk,rfl,HO,HB,HF,HEV⟩:=hrel;by_cases hlt:k<n
 ·obtain ⟨x,hx⟩: ∃x,c[k]?=some x:=⟨_,Zf (by have:=HL1.out;omega)⟩;obtain ⟨b,hb⟩: ∃b,rows[k]?=some b:=⟨_,Zf (by have:=HL2.out;omega)⟩;obtain ⟨ad,A',c',rfl,hcb,hlb,hCb⟩:=cqz (Kd.F_now (F_bb (HL2.out.symm▸HR.out) HB.out)) k b hb;obtain ⟨cd,rfl,hcx⟩:=cvz (Kd.F_now (F_bb (HL1.out.symm▸HC.out) HB.out)) k x hx;have HCB:=Za hCb;have HI:=Za (HIN.out x (Zo hx));have HBL:=Za (HSZ.out b (Zo hb));have HZ:=Za (e4z (mulB wb) c rows k x b hx hb);have HEV1:=Za (show (rows.take (k+1)).all (evB wb)=((rows.take k).all (evB wb)&&evB wb b) by rw [List.take_add_one,hb];simp)
  have HALL:=Za (show evB wb b=false->rows.all (evB wb)=false from fun h=>by
   rw [List.all_eq_false]
   exact ⟨b,Zo hb,by rw [h];decide⟩)
  have HS3:=Za (show∀q,S q->q<w3.heap.size from fun q hq=>Zp (HS.out q hq) HB.out.size);have k1:(0:Int)<=(k:Int):=by omega
  have k2:(k:Int)<(n:Int):=by omega
  clear hx hb hlb hCb;by_cases hev:evB wb b=true
  ·have HMU:=Za (rMul.ok g wb x S A' c' b w3 HW.out HF.out HS3.out HCB.out HBL.out (by simpa [evB] using hev) HI.out);have HE2:=Za (show (rows.take (k+1)).all (evB wb)=true by rw [HEV1.out,HEV.out,hev];rfl);clear hev
   go_wp2_with fail
   refine HMU.out.mono ?_;rintro e w4 ⟨v4,rfl,q1,q2,q3⟩;obtain ⟨gcs,hgcs⟩:=Fd.cells HF.out;have hj:=S_joinK HO.out hgcs (by decide) q3 q1 HB.out.size;have HLZ:=Za (show (List.zipWith (mulB wb) (c.take k) (rows.take k)).length<=1000 by simp;omega);obtain ⟨va,vc,rfl⟩:=Kd.a3z q1;generalize List.zipWith (mulB wb) (c.take k) (rows.take k)=pre at HO hj HLZ HZ
   generalize (mulB wb x b).length=nm at *
   generalize mulB wb x b=R at hj HZ;have HS1:=Za hj.1;have HM1:=Za hj.2.1;have HOK:=Za hj.2.2;have HSW:=Za (show W.heap.size<=w4.heap.size from Zt HB.out.size q3.size);have HB4:=Za (HB.out.trans q3);have HF4:=Za q2;have HTY:=Za (Kd.bQz hj.1);clear q1 q2 q3 hj hgcs HMU HCB hcb hcx HO
   go_wp2_with ((with_reducible refine aoz (b:= .append) (xs:= #[.tmp 43, .tmp 45]) rfl ?_);go_must (at_builtin;refine Kd.b2z (dM 5 .u8) (w0:=w4) W.heap.size rfl (.tmp 43) (.tmp 45) 24 34 (.slice none 0 0) 24 rfl Tryz.underlying24 kr_ rfl (by decide) (by decide) _ _ R [.slice va nm vc] (fun _=>True) (fun k'=>w3.heap.size<=k') rfl rfl HM1.out HOK.out (fun _ _=>trivial) HS1.out (Zw _ _) HSW.out ?aL ?_;(case aL=>have:=HLZ.out;omega));intro v2 w5 ho2 hb2 hg2 hat2;have HO5:=Za ho2;have HB5:=Za hb2;have HG5:=Za (show w4.grownBy w5 u8.ownBlock from hg2);clear ho2 hb2 hg2 hat2)
   go_roundw
   case rel=>exact ⟨k+1,by omega,by go_num,⟨by rw [HZ.out];exact HO5.out⟩,⟨HB4.out.then_below HB5.out⟩,⟨HF4.out.grown HG5.out HTY.out (by decide) (by decide)⟩,HE2⟩
   case measure=>simp [intOf];omega
  ·have hev':evB wb b=false:=by simpa using hev
   have HMU:=Za (rMul.badw g wb (fpoly wb) x S A' c' b w3 HW.out HF.out HBL.out (by simpa [evB] using hev'))
   have HRES:=Za (show r1= [] /\r2=1 by
    have h:=HH.out;unfold dotB at h;rw [Yb (by rw [HALL.out hev'];decide)] at h;simp only [Zx,Zy] at h
    exact ⟨h.1.symm,h.2.symm⟩)
   clear hev hev'
   go_wp2_with fail
   refine HMU.out.mono ?_;rintro e w4 ⟨rfl,m4,rfl⟩;go_wp2;go_ret2;refine ⟨.slice none 0 0,?_,?_,HF.out.drewN m4,HB.out.drewN m4⟩
   ·rw [HRES.out.2];rfl
   ·rw [HRES.out.1];exact Kd.R_nil _ _ _ _ _
 ·obtain rfl:k=n:=by omega
  have e1:c.take k=c:=List.take_of_length_le (by rw [HL1.out];exact Zv _);have e2:rows.take k=rows:=List.take_of_length_le (by rw [HL2.out];exact Zv _);rw [e1,e2] at HO;rw [e2] at HEV;have h:=HH.out;unfold dotB at h;rw [Ya HEV.out] at h;have HSUM:=Za h;generalize List.zipWith (mulB wb) c rows=pr at HO HSUM;obtain ⟨PA,pc,rfl,hpl,hpc⟩:=Kd.S_reads HO.out;have HPS:=Za (aLz.calls K PA pc pr r1 r2 w3 hpc hpl HSUM.out);clear h e1 e2 hpl hpc
  generalize pr.length=np at *
  go_wp2_with fail
  refine HPS.out.mono ?_;rintro e w4 ⟨v,rfl,s1,s2⟩;have R1:=Za (Kd.bAz s1 HB.out.size);have R2:=Za (HF.out.below s2);have R3:=Za (HB.out.trans (BB.of_below s2 g));clear s1 s2;go_wp2;go_ret2;exact ⟨_,rfl,R1.out,R2.out,R3.out⟩
def aGz.l (K:Nat) (wb:Int) (data:List (List Int)):List (List Int)->List (List Int)->Option (List (List Int)×Int)
 | [],acc=>some (acc,0)
 |row::rs,acc=>(dotB K wb row data).bind fun t=>if t.2=0 then aGz.l K wb data rs (acc++ [t.1]) else some ([],1)
def aGz.small (l:List (List Int)):Bool:=decide (l.length<=1000)&&l.all (fun r=>decide (r.length<=1000000))
def aGz.f (k:Nat) (a0_0 a0_1 a0_2:Int) (l1:List (List Int)):Option (List (List Int)×Int):=
 (aCz.f a0_0 a0_1 a0_2).bind fun b=>if b=true then (if (l1.length:Int)=a0_1 then (if aGz.small l1=true then aGz.l k (pbits a0_0) l1 (parM a0_0 a0_1.toNat a0_2.toNat) [] else none) else some ([],1)) else some ([],1)
theorem C_F {α:Type} {d:Kd α} (hd:Kd.Heap d) {W:World} {A:Option Addr} {n:Nat} {xs:List α} (h:d.C W A n xs):Kd.F d W (fun k=>k<W.heap.size) A n xs:=fun W' hW=>hd.C (fun k hk=>hW k hk hk) h
theorem codec_Parity1.calls (g bf bd : Nat) (wb : Int) (S : Nat -> Prop) (C A : Option Addr) (cc ca K : Nat) (c : List Int) (rows : List (List Int)) (r1 : List Int) (r2 : Int) (W : World) (hw : wb = 8 \/ wb = 16) (hF : Fd W g wb (fpoly wb) S) (hS : ∀ k, S k -> k < W.heap.size)
  (hbf:W.heap[bf]?=some (.cells #[.pointer (some ⟨g,0,none⟩)] 72 (0,0))) (hbd:W.heap[bd]?=some (.cells #[.slice A rows.length ca] 24 (0,0)))
  (hc:Kd.F (Kd.int .i64) W (NotG g) C c.length c) (hr:Kd.F (dM 5 .u8) W (NotG g) A rows.length rows) (hin: ∀x,x∈c->inF wb x=true) (hlen:c.length=rows.length) (h0:0<rows.length) (hsz: ∀r,r∈rows->r.length<=1000000) (hn:rows.length<=1000) (h:dotB K wb c rows=some (r1,r2)):
  Calls Tryz.prog 46 #[.slice C c.length cc, .pointer (some ⟨bf,0,none⟩), .pointer (some ⟨bd,0,none⟩)] W fun e w'=> ∃v,e= .returned (.tuple #[v, .int .i64 r2])/\(Kd.int .u8).R 5 w' W.heap.size (fun _=>True) v r1/\Fd w' g wb (fpoly wb) S/\BB W w' g:=by
 have HD:=Za (rDot.calls g wb S C A cc ca K c rows r1 r2 W hw hF hS hc hr hin hlen h0 hsz hn h);have c1:W.cell? ⟨bf,0,none⟩=some (.pointer (some ⟨g,0,none⟩)):=(abz hbf 0).trans rfl;have c2:W.cell? ⟨bd,0,none⟩=some (.slice A rows.length ca):=(abz hbd 0).trans rfl;generalize rows.length=n at HD c2;generalize c.length=m at HD|-;clear hw hF hS hbf hbd hc hr hin hlen h0 hsz hn h;go_enter Tryz.func46,Tryz.ntmps46
 go_wp2_with fail
 refine HD.out.mono ?_;rintro e w1 ⟨v,rfl,q1,q2,q3⟩;have Q1:=Za q1;have Q2:=Za q2;have Q3:=Za q3;clear q1 q2 q3;go_wp2;go_ret2;exact ⟨_,rfl,Q1.out,Q2.out,Q3.out⟩
theorem aGz.nomay (p k m : Int) (A : Option Addr) (c : Nat) (l : List (List Int)) (W : World) (h : aCz.f p k m = some false) :
  Calls Tryz.prog 19 #[.agg #[.int .i64 p, .int .i64 k, .int .i64 m], .slice A l.length c] W fun e w'=>e= .returned (.tuple #[.slice none 0 0, .int .i64 1])/\Below W.heap.size W w':=by
 have HP:=Za (fun w=>doz.no p k m w h);have hu:=Tryz.underlying23;generalize l.length=n;clear h;go_enter Tryz.func19,Tryz.ntmps19
 go_wp2_with fail
 refine (HP.out _).mono ?_;rintro e w1 ⟨rfl,hB⟩;have HB:=Za (show Below W.heap.size W w1 from (anz (anz (Zw _ _) _) _).trans (hB.mono (by simp;omega)));clear hB;go_wp2;go_ret2;exact ⟨rfl,HB.out⟩
theorem aGz.nolen (p k m : Int) (A : Option Addr) (c : Nat) (l : List (List Int)) (W : World) (h : aCz.f p k m = some true) (hl : (l.length : Int) ≠ k) :
  Calls Tryz.prog 19 #[.agg #[.int .i64 p, .int .i64 k, .int .i64 m], .slice A l.length c] W fun e w'=>e= .returned (.tuple #[.slice none 0 0, .int .i64 1])/\Below W.heap.size W w':=by
 have HP:=Za (fun w=>doz.ok p k m w h);have hu:=Tryz.underlying23;generalize l.length=n at hl|-;generalize parM p k.toNat m.toNat=M at HP;have hne:((n:Int) !=k)=true:=by simpa using hl
 have hb1:=heap_alloc_new W (.cells #[.int .i64 p, .int .i64 k, .int .i64 m] 23);have hb2:=heap_alloc_new (W.alloc (.cells #[.int .i64 p, .int .i64 k, .int .i64 m] 23)) (.cells #[.slice A n c] 24);have hb1':((W.alloc (.cells #[.int .i64 p, .int .i64 k, .int .i64 m] 23)).alloc (.cells #[.slice A n c] 24)).heap[W.heap.size]?=some (.cells #[.int .i64 p, .int .i64 k, .int .i64 m] 23 (0,0)):=aBz hb1 (anz (Zw _ _) _);have HX1:=Za hb1';have HX2:=Za hb2;have HB:=Za (show Below W.heap.size W ((W.alloc (.cells #[.int .i64 p, .int .i64 k, .int .i64 m] 23)).alloc (.cells #[.slice A n c] 24)) from anz (anz (Zw _ _) _) _);clear h hl hb1 hb2 hb1';go_enter Tryz.func19,Tryz.ntmps19
 go_wp2_with fail
 generalize (W.alloc (.cells #[.int .i64 p, .int .i64 k, .int .i64 m] 23)).alloc (.cells #[.slice A n c] 24)=w1 at HX1 HX2 HB|-;refine (HP.out w1).mono ?_;rintro e w2 ⟨B,bc,rfl, -, -,hB⟩;have HB2:=Za (HB.out.trans (hB.mono HB.out.size));have c1:w2.cell? ⟨W.heap.size,1,none⟩=some (.int .i64 k):=(abz (aBz HX1.out hB) 1).trans rfl
 have c2:w2.cell? ⟨W.heap.size+1,0,none⟩=some (.slice A n c):=by
  have:=(abz (aBz HX2.out hB) 0);simp at this;exact this
 clear hB;go_wp2;go_ret2;exact ⟨rfl,HB2.out⟩
theorem aGz.go (K : Nat) (p k m : Int) (A : Option Addr) (c : Nat) (l : List (List Int)) (r1 : List (List Int)) (r2 : Int) (W : World) (h : aCz.f p k m = some true) (hl : (l.length : Int) = k) (hr : Kd.C (dM 5 .u8) W A l.length l) (hsm : aGz.small l = true)
  (hL:aGz.l K (pbits p) l (parM p k.toNat m.toNat) [] =some (r1,r2)):
  Calls Tryz.prog 19 #[.agg #[.int .i64 p, .int .i64 k, .int .i64 m], .slice A l.length c] W fun e w'=> ∃v,e= .returned (.tuple #[v, .int .i64 r2])/\Kd.S (dM 5 .u8) 34 w' W.heap.size (fun _=>True) v r1/\Below W.heap.size W w':=by
 obtain ⟨p1,p2,k1,k2,m1,m2⟩:=cDz h;have HP:=Za (fun w=>doz.ok p k m w h);have HFD:=Za (e1z.calls p ⟨p1,p2⟩);have HPB:=Za (eqz p);have hgd:=d7z p k.toNat m.toNat (by omega) (by omega) (by omega) (by omega)
 have HSM:=Za (show l.length<=1000/\ ∀r,r∈l->r.length<=1000000 by
  simp only [aGz.small,Bool.and_eq_true,decide_eq_true_eq,List.all_eq_true] at hsm
  exact hsm)
 have hu:=Tryz.underlying23;obtain ⟨n,hn⟩: ∃n,l.length=n:=⟨_,rfl⟩;have HLN:=Za hn;obtain rfl:k=(n:Int):=by omega
 simp only [Zu] at HP hgd hL;obtain ⟨mm,hmm⟩: ∃mm,m.toNat=mm:=⟨_,rfl⟩;rw [hmm] at HP hgd hL;have mm4:mm<=4:=by omega
 have HGD:=Za hgd;have HL:=Za hL;have HR:=Za (C_F (Kd.heap_slice _ (Kd.heap_int _)) hr);rw [hn] at HR|-;generalize parM p n mm=M at HP HGD HL;generalize pbits p=wb at HFD HPB HL HGD;have hself:((n:Int) !=(n:Int))=false:=by simp
 have n1:1<=n:=by omega
 have n2:n<=8:=by omega
 have HW:=Za (show W.heap.size=W.heap.size from rfl);have hb1:=heap_alloc_new W (.cells #[.int .i64 p, .int .i64 (n:Int), .int .i64 m] 23);have hb2:=heap_alloc_new (W.alloc (.cells #[.int .i64 p, .int .i64 (n:Int), .int .i64 m] 23)) (.cells #[.slice A n c] 24);have hb1':((W.alloc (.cells #[.int .i64 p, .int .i64 (n:Int), .int .i64 m] 23)).alloc (.cells #[.slice A n c] 24)).heap[W.heap.size]?=some (.cells #[.int .i64 p, .int .i64 (n:Int), .int .i64 m] 23 (0,0)):=aBz hb1 (anz (Zw _ _) _);have HX1:=Za hb1';have HX2:=Za (show ((W.alloc (.cells #[.int .i64 p, .int .i64 (n:Int), .int .i64 m] 23)).alloc (.cells #[.slice A n c] 24)).heap[W.heap.size+1]?=some (.cells #[.slice A n c] 24 (0,0)) by simpa using hb2);have HB:=Za (show Below W.heap.size W ((W.alloc (.cells #[.int .i64 p, .int .i64 (n:Int), .int .i64 m] 23)).alloc (.cells #[.slice A n c] 24)) from anz (anz (Zw _ _) _) _);clear h hl hb1 hb2 hb1' hgd hL hr hn p1 p2 k1 k2 hmm hsm
 go_enter Tryz.func19,Tryz.ntmps19
 go_wp2_with fail
 generalize (W.alloc (.cells #[.int .i64 p, .int .i64 (n:Int), .int .i64 m] 23)).alloc (.cells #[.slice A n c] 24)=w1 at HX1 HX2 HB|-;refine (HP.out w1).mono ?_;rintro e w2 ⟨B,bc,rfl, -,hC2,hB⟩;have HB2:=Za (HB.out.trans (hB.mono HB.out.size));have HY1:=Za (aBz HX1.out hB);have HY2:=Za (aBz HX2.out hB);have HM2:=Za (Kd.cPz (Kd.F_bound hC2) (fun q hq=>hq.2));have c0:w2.cell? ⟨W.heap.size,0,none⟩=some (.int .i64 p):=(abz HY1.out 0).trans rfl;have c1:w2.cell? ⟨W.heap.size,1,none⟩=some (.int .i64 (n:Int)):=(abz HY1.out 1).trans rfl;have c2:w2.cell? ⟨W.heap.size+1,0,none⟩=some (.slice A n c):=(abz HY2.out 0).trans rfl;have HML:=Za (show M.length=mm from HGD.out.2);clear hB hC2 HP HX1 HX2 HB;have hmf: ∀(fn:Fn) (first cap:Array Value) (w:World),(Instr.makeFunc fn first cap).run Tryz.prog w= .ok (.func fn first cap) w:=fun _ _ _ _=>rfl
 go_wp2_with fail
 refine (HFD.out w2).mono ?_;rintro e w3 ⟨g,rfl,q1,q2,q3⟩;have HB3:=Za (HB2.out.trans (q3.mono HB2.out.size));have HZ2:=Za (aBz HY2.out q3);have HFR:=Za (q1.fd (fun _=>False) (fun h=>h));have HM3:=Za (show Kd.F (dM 3 .i64) w3 (NotG g) B mm M from Kd.cPz (Kd.c3z HM2.out q3) (fun q hq=>by show q≠g;omega));have HD3:=Za (show Kd.F (dM 5 .u8) w3 (NotG g) A n l from Kd.cPz (Kd.F_step HR.out (fun q hq _=>HB3.out.block q hq)) (fun q hq=>by show q≠g;have:=HB2.out.size;omega));have HG3:=Za (show W.heap.size<=g from Zt HB2.out.size q2);have HGN:=Za (show W.heap.size+1≠g by have:=a8z HY2.out;omega);clear q1 q2 q3 c0 c1 c2 HM2 HR HY1 HY2 HB2 HFD;go_wp2;obtain ⟨bf,hbf⟩: ∃bf,bf=w3.heap.size:=⟨_,rfl⟩;obtain ⟨bd,hbd⟩: ∃bd,bd=W.heap.size+1:=⟨_,rfl⟩;have HT:=anz (Zw w3.heap.size w3) (.cells #[.pointer (some ⟨g,0,none⟩)] 72);have HBF:=Za (show (w3.alloc (.cells #[.pointer (some ⟨g,0,none⟩)] 72)).heap[bf]?=some (.cells #[.pointer (some ⟨g,0,none⟩)] 72 (0,0)) by rw [hbf];exact heap_alloc_new _ _)
 have HBD:=Za (show (w3.alloc (.cells #[.pointer (some ⟨g,0,none⟩)] 72)).heap[bd]?=some (.cells #[.slice A n c] 24 (0,0)) by rw [hbd];exact aBz HZ2.out HT);have HB5:=Za (anz HB3.out (.cells #[.pointer (some ⟨g,0,none⟩)] 72));have HF5:=Za (HFR.out.alloc (.cells #[.pointer (some ⟨g,0,none⟩)] 72));have HM5:=Za (Kd.F_alloc HM3.out (.cells #[.pointer (some ⟨g,0,none⟩)] 72));have HD5:=Za (Kd.F_alloc HD3.out (.cells #[.pointer (some ⟨g,0,none⟩)] 72));have HN1:=Za (show bf≠g by have:=HFR.out.lt;omega);have HN2:=Za (show bd≠g by rw [hbd];exact HGN.out);rw [<-hbf, <-hbd];clear HT hbf hbd HB3 HZ2 HFR HM3 HD3 HGN;generalize w3.alloc (.cells #[.pointer (some ⟨g,0,none⟩)] 72)=w5 at HBF HBD HB5 HF5 HM5 HD5|-
 go_loopw [10,35] (fun v iv wr=> ∃(k:Nat) (acc:List (List Int)),k<=mm/\iv= .int .i64 (k:Int)/\Aside0 (Kd.S (dM 5 .u8) 34 wr w5.heap.size (fun _=>True) v acc)/\Aside0 (BB w5 wr g)/\Aside0 (Fd wr g wb (fpoly wb) (fun _=>False))/\Aside0 (aGz.l K wb l (M.drop k) acc=some (r1,r2))/\acc.length<=k) (fun _ iv _=>mm - (intOf iv).toNat)
 case atStart=>exact ⟨0, [],Nat.zero_le _,rfl,⟨Kd.S_nil _ _ _ _ _⟩,⟨BB.refl _ _⟩,HF5,HL,Nat.zero_le _⟩
 clear HF5 HL;obtain ⟨w6,rfl⟩: ∃w6,w6=wr:=⟨_,rfl⟩;obtain ⟨k,acc,hk,rfl,HO,HB,HF,HL,hacc⟩:=hrel;by_cases hlt:k<mm
 ·obtain ⟨row,hrow⟩: ∃x,M[k]?=some x:=⟨_,Zf (by have:=HML.out;omega)⟩
  have hdr:M.drop k=row::M.drop (k+1):=by
   obtain ⟨h1,h2⟩:=Zk hrow;rw [List.drop_eq_getElem_cons h1,h2]
  have hl:=HL.out;rw [hdr,aGz.l] at hl;obtain ⟨⟨t1,t2⟩,hd,hl2⟩:=Option.bind_eq_some_iff.1 hl;have hgr:=HGD.out.1 row (Zo hrow);have HRL:=Za hgr.1;have hFM:=F_bb HM5.out HB.out;rw [<-HML.out] at hFM;obtain ⟨ad,A',c',rfl,hcr,hlr, -⟩:=cqz (Kd.F_now hFM) k row hrow;obtain ⟨A2,c2,hcr2,hlr2,hFr⟩:=row_atF hFM k row hrow
  obtain ⟨rfl,rfl⟩:A'=A2/\c'=c2:=by
   rw [hcr] at hcr2;injection hcr2 with e
   injection e with e1 e2 e3
   exact ⟨e1,e3⟩
  have HDC:=Za (codec_Parity1.calls g bf bd wb (fun _=>False) A' A c' c K row l t1 t2 w6 HPB.out HF.out (fun _ h=>h.elim) ((HB.out.block bf (a8z HBF.out) HN1.out).trans HBF.out) (by rw [HLN.out];exact (HB.out.block bd (a8z HBD.out) HN2.out).trans HBD.out) hFr (by rw [HLN.out];exact F_bb HD5.out HB.out) (fun x hx=>by
   have:=hgr.2 x hx
   simp [inF,this]) (by rw [HRL.out,HLN.out]) (by rw [HLN.out];omega) HSM.out.2 HSM.out.1 hd)
  have HL2:=Za hl2;rw [HRL.out] at HDC hcr;have k1:(0:Int)<=(k:Int):=by omega
  have k2:(k:Int)<(mm:Int):=by omega
  clear hrow hdr hl hl2 hd hgr hFM hlr hcr2 hlr2 hFr
  go_wp2_with fail
  refine HDC.out.mono ?_;rintro e w7 ⟨v7,rfl,q1,q2,q3⟩;by_cases ht2:t2=0
  ·subst ht2;have HL3:=HL2.out;rw [Ya rfl] at HL3;have HL4:=Za HL3;obtain ⟨gcs,hgcs⟩:=Fd.cells HF.out;have hj:=S_joinK HO.out hgcs (by decide) q3 q1 HB.out.size;obtain ⟨va,vc,rfl⟩:=Kd.a3z q1
   generalize t1.length=nm at *
   have HS1:=Za hj.1;have HM1:=Za hj.2.1;have HOK:=Za hj.2.2;have HSW:=Za (show w5.heap.size<=w7.heap.size from Zt HB.out.size q3.size);have HB7:=Za (HB.out.trans q3);have HF7:=Za q2;have HTY:=Za (Kd.bQz hj.1);have hal:acc.length<=100:=by omega
   clear q1 q2 q3 hj hgcs HDC hcr HO HL3 HL2;have HAL:=Za hal;have HAC:=Za hacc;clear hal hacc
   go_wp2_with ((with_reducible refine aoz (b:= .append) (xs:= #[.tmp 47, .tmp 49]) rfl ?_);go_must (at_builtin;refine Kd.b2z (dM 5 .u8) (w0:=w7) w5.heap.size rfl (.tmp 47) (.tmp 49) 24 34 (.slice none 0 0) 24 rfl Tryz.underlying24 kr_ rfl (by decide) (by decide) _ _ t1 [.slice va nm vc] (fun _=>True) (fun k'=>w6.heap.size<=k') rfl rfl HM1.out HOK.out (fun _ _=>trivial) HS1.out (Zw _ _) HSW.out ?aL ?_;(case aL=>have:=HAL.out;omega));intro v2 w8 ho2 hb2 hg2 hat2;have HO8:=Za ho2;have HB8:=Za hb2;have HG8:=Za (show w7.grownBy w8 u10.ownBlock from hg2);clear ho2 hb2 hg2 hat2)
   go_roundw
   case rel=>exact ⟨k+1,acc++ [t1],by omega,by go_num,HO8,⟨HB7.out.then_below HB8.out⟩,⟨HF7.out.grown HG8.out HTY.out (by decide) (by decide)⟩,HL4,by have:=HAC.out;simp;omega⟩
   case measure=>simp [intOf];omega
  ·have hb2:(t2 !=0)=true:=by simpa using ht2
   have HRES:=Za (show r1= [] /\r2=1 by
    have h:=HL2.out;rw [Yb ht2] at h;simp only [Zx,Zy] at h
    exact ⟨h.1.symm,h.2.symm⟩)
   have HB7:=Za (HB.out.trans q3);clear q1 q2 q3 ht2 HDC hcr;go_wp2;go_ret2;refine ⟨.slice none 0 0,?_,?_,HB7.out.below HB5.out HG3.out⟩
   ·rw [HRES.out.2];rfl
   ·rw [HRES.out.1];exact Kd.S_nil _ _ _ _ _
 ·obtain rfl:k=mm:=by omega
  have h:=HL.out;rw [List.drop_of_length_le (by rw [HML.out];exact Zv _),aGz.l] at h;simp only [Zx,Zy] at h;obtain ⟨rfl,rfl⟩:=h;go_wp2;go_ret2;exact ⟨_,rfl,Kd.cXz HO.out HB5.out.size,HB.out.below HB5.out HG3.out⟩
theorem aGz.calls (k:Nat) (a0_0:Int) (a0_1:Int) (a0_2:Int) (A1:Option Addr) (c1:Nat) (l1:List (List Int)) (r1:List (List Int)) (r2:Int) (w:World) (hr1:Kd.C (Kd.slice 5 (Kd.int .u8)) w A1 l1.length l1) (hc1:l1.length<=c1) (h:aGz.f k a0_0 a0_1 a0_2 l1=some (r1,r2)):
 Calls Tryz.prog 19 #[.agg #[.int .i64 a0_0, .int .i64 a0_1, .int .i64 a0_2], .slice A1 l1.length c1] w fun e w'=> ∃v0_:Value,e= .returned (.tuple #[v0_, .int .i64 r2])/\Kd.S (Kd.slice 5 (Kd.int .u8)) 34 w' w.heap.size (fun _=>True) v0_ r1/\Below w.heap.size w w':=by
 unfold aGz.f at h;obtain ⟨b,hb⟩:=dXz a0_0 a0_1 a0_2;rw [hb] at h;simp only [Zl] at h
 have bad: ∀(hh:some (([] :List (List Int)),(1:Int))=some (r1,r2)) (hc:Calls Tryz.prog 19 #[.agg #[.int .i64 a0_0, .int .i64 a0_1, .int .i64 a0_2], .slice A1 l1.length c1] w fun e w'=>e= .returned (.tuple #[.slice none 0 0, .int .i64 1])/\Below w.heap.size w w'),Calls Tryz.prog 19 #[.agg #[.int .i64 a0_0, .int .i64 a0_1, .int .i64 a0_2], .slice A1 l1.length c1] w fun e w'=> ∃v0_:Value,e= .returned (.tuple #[v0_, .int .i64 r2])/\Kd.S (Kd.slice 5 (Kd.int .u8)) 34 w' w.heap.size (fun _=>True) v0_ r1/\Below w.heap.size w w':=by
  intro hh hc;simp only [Zx,Zy] at hh;obtain ⟨rfl,rfl⟩:=hh;refine hc.mono ?_;rintro e w' ⟨rfl,hB⟩;exact ⟨_,rfl,Kd.S_nil _ _ _ _ _,hB⟩
 cases b with
 |false=>exact bad (by simpa using h) (aGz.nomay a0_0 a0_1 a0_2 A1 c1 l1 w hb)
 |true=>
  rw [Ya rfl] at h;by_cases hl:(l1.length:Int)=a0_1
  ·rw [Ya hl] at h;by_cases hs:aGz.small l1=true
   ·rw [Ya hs] at h;exact aGz.go k a0_0 a0_1 a0_2 A1 c1 l1 r1 r2 w hb hl hr1 hs h
   ·rw [Yb hs] at h;cases h
  ·rw [Yb hl] at h;exact bad h (aGz.nolen a0_0 a0_1 a0_2 A1 c1 l1 w hb hl)
def eqRows (k:Nat):List (List Int)->List (List Int)->Option Bool
 | [], [] =>some true
 |x::xs,y::ys=>(aTz.f k x y).bind fun b=>if b=true then eqRows k xs ys else some false
 |_,_=>some false
def eqFunc (k:Nat) (p q:List (List Int)):Option Bool:=if p.length=q.length then (if p.length<=1000000 then eqRows k p q else none) else some false
theorem eqFunc.calls (K : Nat) (A B : Option Addr) (ca cb : Nat) (p q : List (List Int)) (r : Bool) (W : World) (hA : Kd.C (dM 5 .u8) W A p.length p) (hB : Kd.C (dM 5 .u8) W B q.length q) (h : eqFunc K p q = some r) :
  Calls Tryz.prog 53 #[.slice A p.length ca, .slice B q.length cb, .func (.func 54) #[] #[]] W fun e w'=>e= .returned (.bool r)/\Below W.heap.size W w':=by
 unfold eqFunc at h;by_cases hl:p.length=q.length
 ·rw [Ya hl] at h;by_cases hsm:p.length<=1000000
  ·rw [Ya hsm] at h;have HA:=Za hA;have HBq:=Za hB;obtain ⟨n,hn⟩: ∃n,q.length=n:=⟨_,rfl⟩;have HN:=Za (show p.length=n/\q.length=n from ⟨hl.trans hn,hn⟩);have hnn:n<=1000000:=by omega
   rw [hl,hn];have HR:=Za h;have hself:((n:Int) !=(n:Int))=false:=by simp
   clear h hA hB hl hn;go_enter Tryz.func53,Tryz.ntmps53;go_wp2
   go_loopw [17] (fun iv wr=> ∃i:Nat,i<=n/\iv= .int .i64 (i:Int)/\Aside0 (Below W.heap.size W wr)/\Aside0 (eqRows K (p.drop i) (q.drop i)=some r)) (fun iv _=>n - (intOf iv).toNat)
   case atStart=>exact ⟨0,Nat.zero_le _,rfl,⟨Zw _ _⟩,⟨by simpa using HR.out⟩⟩
   clear HR;obtain ⟨w6,rfl⟩: ∃w6,w6=wr:=⟨_,rfl⟩;obtain ⟨i,hi,rfl,HB,HE⟩:=hrel;by_cases hlt:i<n
   ·obtain ⟨x,hx⟩: ∃x,p[i]?=some x:=⟨_,Zf (by have:=HN.out.1;omega)⟩;obtain ⟨y,hy⟩: ∃y,q[i]?=some y:=⟨_,Zf (by have:=HN.out.2;omega)⟩;obtain ⟨a1,A1,c1,rfl,_,l1,C1⟩:=cqz (Kd.azz HA.out HB.out) i x hx;obtain ⟨a2,A2,c2,rfl,_,l2,C2⟩:=cqz (Kd.azz HBq.out HB.out) i y hy
    have hd1:p.drop i=x::p.drop (i+1):=by
     obtain ⟨h1,h2⟩:=Zk hx;rw [List.drop_eq_getElem_cons h1,h2]
    have hd2:q.drop i=y::q.drop (i+1):=by
     obtain ⟨h1,h2⟩:=Zk hy;rw [List.drop_eq_getElem_cons h1,h2]
    have he:=HE.out;rw [hd1,hd2,eqRows] at he;obtain ⟨b,hb,he⟩:=Option.bind_eq_some_iff.1 he;have HC:=Za (aTz.calls K A1 c1 x A2 c2 y b w6 C1 l1 C2 l2 hb);have i1:(0:Int)<=(i:Int):=by omega
    have i2:(i:Int)<(n:Int):=by omega
    have HE2:=Za he;clear hd1 hd2 hb he C1 C2 l1 l2 hx hy HE
    cases b with
    |true=>
     go_wp2_with fail
     refine HC.out.mono ?_;rintro e w9 ⟨rfl,m9,rfl⟩;have HB9:=Za (a0z HB.out m9);go_wp2;go_roundw
     case rel=>exact ⟨i+1,by omega,by go_num,HB9,⟨by simpa using HE2.out⟩⟩
     case measure=>simp [intOf];omega
    |false=>
     have HRR:=Za (show r=false by have:=HE2.out;rw [Yb (by decide)] at this;cases this;rfl)
     go_wp2_with fail
     refine HC.out.mono ?_;rintro e w9 ⟨rfl,m9,rfl⟩;have HB9:=Za (a0z HB.out m9);go_wp2;go_ret;exact ⟨by rw [HRR.out];rfl,HB9.out⟩
   ·obtain rfl:i=n:=by omega
    have HRR:=Za (show r=true by
     have:=HE.out;rw [List.drop_of_length_le (by rw [HN.out.1];exact Zv _),List.drop_of_length_le (by rw [HN.out.2];exact Zv _),eqRows] at this
     cases this;rfl)
    go_wp2;go_ret;exact ⟨by rw [HRR.out];rfl,HB.out⟩
  ·rw [Yb hsm] at h;cases h
 ·rw [Yb hl] at h;cases h
  have hne:((p.length:Int) !=(q.length:Int))=true:=by simpa using fun h=>hl (by omega)
  generalize p.length=n1 at hne|-;generalize q.length=n2 at hne|-;clear hA hB hl;go_enter Tryz.func53,Tryz.ntmps53;go_wp2;go_ret;exact ⟨rfl,Zw _ _⟩
def buz.f (k:Nat) (a0_0 a0_1 a0_2:Int) (l1:List (List Int)):Option Bool:=
 (aCz.f a0_0 a0_1 a0_2).bind fun b=>if b=true then (if (l1.length:Int)=a0_1+a0_2 then ((aGz.f k a0_0 a0_1 a0_2 (l1.take a0_1.toNat)).bind fun t=>if t.2=0 then eqFunc k t.1 (l1.drop a0_1.toNat) else some false) else some false) else some false
theorem cut_to3 {P : Program} (t e : TypeId) {i : TypeInfo} (ht : P.underlying t = some (.slice e)) (hi : P.info? e = some i) (A : Option Addr) (n c j : Nat) (hm : j <= n) (hc : n <= c) :
  ∀W:World,(Instr.slice t (.slice A n c) none (some (.int .i64 (j:Int))) (some (.int .i64 (j:Int)))).run P W= .ok (.slice A j j) W:=by
 intro W;have hel:P.elem t=e:=by simp [Program.elem,ht]
 have hu:P.underlying t=some (.slice (P.elem t)):=by rw [hel];exact ht
 have ha:(A.map fun x=>x.add 0)=A:=by cases A<;>simp [Addr.add]
 have h1:(j:Int)<=(c:Int):=by omega
 simp [Instr.slice,run_underlying hu,Instr.sliceBounds,run_sliceBound,h1,hel,sizeOf,typeInfo,hi,sliced,Result.andThen,ha]
theorem buz.nomay (a0_0 a0_1 a0_2 : Int) (A1 : Option Addr) (c1 n : Nat) (w : World) (h : aCz.f a0_0 a0_1 a0_2 = some false) :
  Calls Tryz.prog 22 #[.agg #[.int .i64 a0_0, .int .i64 a0_1, .int .i64 a0_2], .slice A1 n c1] w fun e w'=>e= .returned (.bool false)/\Below w.heap.size w w':=by
 have HM:=Za (fun w=>aCz.calls a0_0 a0_1 a0_2 false w h);have hu:=Tryz.underlying23;have HB:=Za (anz (Zw w.heap.size w) (.cells #[.int .i64 a0_0, .int .i64 a0_1, .int .i64 a0_2] 23));clear h;go_enter Tryz.func22,Tryz.ntmps22
 go_wp2_with fail
 generalize w.alloc (.cells #[.int .i64 a0_0, .int .i64 a0_1, .int .i64 a0_2] 23)=w0 at HB|-;refine (HM.out w0).mono ?_;rintro e w1 ⟨rfl,hB1⟩;have HB1:=Za (HB.out.trans (hB1.mono HB.out.size));clear hB1;go_wp2;go_ret;exact ⟨rfl,HB1.out⟩
theorem buz.nolen (a0_0 a0_1 a0_2 : Int) (A1 : Option Addr) (c1 n : Nat) (w : World) (h : aCz.f a0_0 a0_1 a0_2 = some true) (hk : 1 <= a0_1 /\ a0_1 <= 1000 /\ 1 <= a0_2 /\ a0_2 <= 1000) (hn : (n : Int) ≠ a0_1 + a0_2) :
  Calls Tryz.prog 22 #[.agg #[.int .i64 a0_0, .int .i64 a0_1, .int .i64 a0_2], .slice A1 n c1] w fun e w'=>e= .returned (.bool false)/\Below w.heap.size w w':=by
 have HM:=Za (fun w=>aCz.calls a0_0 a0_1 a0_2 true w h);have hu:=Tryz.underlying23;have HB:=Za (anz (Zw w.heap.size w) (.cells #[.int .i64 a0_0, .int .i64 a0_1, .int .i64 a0_2] 23));have HX:=Za (heap_alloc_new w (.cells #[.int .i64 a0_0, .int .i64 a0_1, .int .i64 a0_2] 23));have hs:IntKind.i64.wrap (a0_1+a0_2)=a0_1+a0_2:=by rw [IntKind.wrap_i64];omega
 have hne:((n:Int) !=a0_1+a0_2)=true:=by simpa using hn
 clear h hk hn;go_enter Tryz.func22,Tryz.ntmps22
 go_wp2_with fail
 generalize w.alloc (.cells #[.int .i64 a0_0, .int .i64 a0_1, .int .i64 a0_2] 23)=w0 at HB HX|-;refine (HM.out w0).mono ?_;rintro e w1 ⟨rfl,hB1⟩;have HB1:=Za (HB.out.trans (hB1.mono HB.out.size));have HX1:=aBz HX.out hB1;have q1:w1.cell? ⟨w.heap.size,1,none⟩=some (.int .i64 a0_1):=(abz HX1 1).trans rfl;have q2:w1.cell? ⟨w.heap.size,2,none⟩=some (.int .i64 a0_2):=(abz HX1 2).trans rfl;clear hB1 HX HX1;go_wp2;go_ret;exact ⟨rfl,HB1.out⟩
theorem buz.go (k : Nat) (a0_0 : Int) (kk M n : Nat) (A1 : Option Addr) (c1 : Nat) (l1 t1 : List (List Int)) (t2 : Int) (r : Bool) (w : World) (h : aCz.f a0_0 (kk : Int) (M : Int) = some true) (hk : 1 <= kk /\ kk <= 1000 /\ 1 <= M /\ M <= 1000) (hn : n = kk + M) (hln : l1.length = n) (hc : n <= c1)
  (hr:Kd.C (dM 5 .u8) w A1 l1.length l1) (hp:aGz.f k a0_0 (kk:Int) (M:Int) (l1.take kk)=some (t1,t2)) (he:t2=0->eqFunc k t1 (l1.drop kk)=some r) (he2:t2≠0->r=false):
  Calls Tryz.prog 22 #[.agg #[.int .i64 a0_0, .int .i64 (kk:Int), .int .i64 (M:Int)], .slice A1 n c1] w fun e w'=>e= .returned (.bool r)/\Below w.heap.size w w':=by
 have HM:=Za (fun w=>aCz.calls a0_0 (kk:Int) (M:Int) true w h);have HE:=Za he;have HE2:=Za he2;have HP:=Za hp;have HR:=Za hr;have HLN:=Za hln;have hu:=Tryz.underlying23;have hu2:=Tryz.underlying24;have HB:=Za (anz (Zw w.heap.size w) (.cells #[.int .i64 a0_0, .int .i64 (kk:Int), .int .i64 (M:Int)] 23));have HX:=Za (heap_alloc_new w (.cells #[.int .i64 a0_0, .int .i64 (kk:Int), .int .i64 (M:Int)] 23));have hs:IntKind.i64.wrap ((kk:Int)+(M:Int))=((kk+M:Nat):Int):=by rw [IntKind.wrap_i64];omega
 have hne:((n:Int) !=((kk+M:Nat):Int))=false:=by rw [hn];simp
 have hKn:kk<=n:=by omega
 clear h hk hn he he2 hp hr hln;go_enter Tryz.func22,Tryz.ntmps22
 go_wp2_with fail
 generalize w.alloc (.cells #[.int .i64 a0_0, .int .i64 (kk:Int), .int .i64 (M:Int)] 23)=w0 at HB HX|-;refine (HM.out w0).mono ?_;rintro e w1 ⟨rfl,hB1⟩;have HB1:=Za (HB.out.trans (hB1.mono HB.out.size));have HX1:=Za (aBz HX.out hB1);have q0:w1.cell? ⟨w.heap.size,0,none⟩=some (.int .i64 a0_0):=(abz HX1.out 0).trans rfl;have q1:w1.cell? ⟨w.heap.size,1,none⟩=some (.int .i64 (kk:Int)):=(abz HX1.out 1).trans rfl;have q2:w1.cell? ⟨w.heap.size,2,none⟩=some (.int .i64 (M:Int)):=(abz HX1.out 2).trans rfl;have hinfo:(Tryz.prog.info? 34).map (fun i=>i.size)=some 1:=by kernel_rfl
 obtain ⟨inf,hinf,hsz⟩:=Option.map_eq_some_iff.1 hinfo;have hcut:=cut_to3 (P:=Tryz.prog) 24 34 hu2 hinf A1 n c1 kk hKn hc;have htk:(l1.take kk).length=kk:=by rw [List.length_take,HLN.out];omega
 have HPA:=Za (show Calls Tryz.prog 19 #[.agg #[.int .i64 a0_0, .int .i64 (kk:Int), .int .i64 (M:Int)], .slice A1 kk kk] w1.drew _ from by
  have h1:=aGz.calls k a0_0 (kk:Int) (M:Int) A1 kk (l1.take kk) t1 t2 w1.drew (Kd.C_take (Kd.azz HR.out HB1.out.drew) (by rw [HLN.out];exact hKn)) (by omega) HP.out;rw [htk] at h1
  exact h1)
 have hmo:Tryz.prog.follows .mixedOrders=true:=by kernel_rfl
 have hdl:(l1.drop kk).length=n - kk:=by rw [List.length_drop,HLN.out]
 have hcut2:=elz (P:=Tryz.prog) 24 34 .i64 hu2 hinf 1 hsz A1 n c1 (kk:Int) (by omega) (by omega);have hdr:=Kd.C_drop (m:=kk) (c:=c1) HR.out (by rw [HLN.out];exact hKn) (by rw [HLN.out];exact hc);rw [show (dM 5 .u8).sz=1 from rfl,hdl] at hdr;simp only [Zu] at hcut2;generalize (if c1=kk then A1 else Option.map (fun x=>x.add (kk*1)) A1)=A4 at hcut2 hdr;have HDR:=Za hdr;have HDL:=Za hdl;obtain ⟨c4,hc4⟩: ∃c4,c1 - kk=c4:=⟨_,rfl⟩;obtain ⟨n4,hn4⟩: ∃n4,n - kk=n4:=⟨_,rfl⟩;rw [hc4,hn4] at hcut2;rw [hn4] at HDR HDL;clear hB1 HX HB HM hinfo hinf htk HP hsz hdl hdr hc4 hn4
 go_wp2_with fail
 refine bPz (n:=13) (S:=fun w'=>w'.cell? ⟨w.heap.size,0,none⟩=some (.int .i64 a0_0)/\w'.cell? ⟨w.heap.size,1,none⟩=some (.int .i64 (kk:Int))/\w'.cell? ⟨w.heap.size,2,none⟩=some (.int .i64 (M:Int))) (ds:= []) (bA 13 0) kr_ rfl rfl ⟨q0,q1,q2⟩ (fun hHeld=> ?_);refine pu_ 1 22 2 ?_;refine pu_ 2 23 6 ?_;refine pu_ 4 25 22 ?_;refine tk_ 0 21 23 hHeld ?_;refine tk_ 3 24 31 hHeld ?_;refine tk_ 5 26 63 hHeld ?_;refine pu_ 6 27 127 ?_;refine one_ (i:=7) (N:=some 28) (bA 13 255) rfl rfl kr_ (by decide) (fun K hK=> ?_);refine goes_ Tryz.func19 kr_ rfl #[.agg #[.int .i64 a0_0, .int .i64 (kk:Int), .int .i64 (M:Int)], .slice A1 kk kk] (by rfl) rfl rfl am_ ?_
 with_reducible refine (HPA.out).mono ?_
 rintro e w2 ⟨v,rfl,p3,p4⟩;refine ⟨_,rfl,?_⟩;have P3:=Za p3;have HB2:=Za (HB1.out.drew.trans (p4.mono HB1.out.drew.size));have HX2:=Za (aBz (show w1.drew.heap[w.heap.size]?=_ from HX1.out) p4);clear p3 p4;refine hK.out _ _ ⟨(abz HX2.out 0).trans rfl,(abz HX2.out 1).trans rfl,(abz HX2.out 2).trans rfl⟩ (fun hHeld=> ?_);clear hK K;refine norm_ (a':= ?_) ?_ ?_;rotate_left
 ·show Act.put _ (some 28) _=_;simp only [Act.put,Zg,Zh,Zi,i64_w,i32_w];rfl
 refine pu_ 8 20 511 ?_;refine pu_ 9 29 1023 ?_;refine pu_ 10 30 2047 ?_;refine pu_ 11 5 4095 ?_;refine pu_ 12 6 8191 ?_;refine done_ kr_ ?_;have q1:w2.cell? ⟨w.heap.size,1,none⟩=some (.int .i64 (kk:Int)):=hHeld.2.1;obtain ⟨A2,c2,rfl,l2,C2⟩:=Kd.S_reads P3.out;by_cases ht:t2=0
 ·subst ht
  have HEQ:=Za (show Calls Tryz.prog 53 #[.slice A2 t1.length c2, .slice A4 n4 c4, .func (.func 54) #[] #[]] w2 _ from by
   have h1:=eqFunc.calls k A2 A4 c2 c4 t1 (l1.drop kk) r w2 C2 (by have:=Kd.azz HDR.out (HB2.out);rw [HDL.out];exact this) (HE.out rfl);rw [HDL.out] at h1
   exact h1)
  generalize t1.length=m1 at HEQ l2|-;clear C2 P3 HPA
  go_wp2_with fail
  refine HEQ.out.mono ?_;rintro e w3 ⟨rfl,q3⟩;have HB3:=Za (HB2.out.trans (q3.mono HB2.out.size));clear q3;go_wp2;go_ret;exact ⟨by cases r<;>rfl,HB3.out⟩
 ·have hne2:(t2==0)=false:=by simpa using ht
  have HRR:=Za (HE2.out ht);generalize t1.length=m1 at l2|-;clear C2 P3 HPA;go_wp2;go_ret;exact ⟨by rw [HRR.out];rfl,HB2.out⟩
theorem buz.calls (k:Nat) (a0_0:Int) (a0_1:Int) (a0_2:Int) (A1:Option Addr) (c1:Nat) (l1:List (List Int)) (r:Bool) (w:World) (hr1:Kd.C (Kd.slice 5 (Kd.int .u8)) w A1 l1.length l1) (hc1:l1.length<=c1) (h:buz.f k a0_0 a0_1 a0_2 l1=some r):
 Calls Tryz.prog 22 #[.agg #[.int .i64 a0_0, .int .i64 a0_1, .int .i64 a0_2], .slice A1 l1.length c1] w fun e w'=>e= .returned (.bool r)/\Below w.heap.size w w':=by
 unfold buz.f at h;obtain ⟨b,hb⟩:=dXz a0_0 a0_1 a0_2;rw [hb] at h;simp only [Zl] at h
 cases b with
 |false=>
  rw [Yb (by decide)] at h;cases h
  exact buz.nomay a0_0 a0_1 a0_2 A1 c1 l1.length w hb
 |true=>
  rw [Ya rfl] at h;obtain ⟨p1,p2,k1,k2,m1,m2⟩:=cDz hb;by_cases hl:(l1.length:Int)=a0_1+a0_2
  ·rw [Ya hl] at h;obtain ⟨kk,rfl⟩: ∃kk:Nat,a0_1=(kk:Int):=⟨a0_1.toNat,by omega⟩;obtain ⟨M,rfl⟩: ∃M:Nat,a0_2=(M:Int):=⟨a0_2.toNat,by omega⟩;rw [Zu] at h;obtain ⟨⟨t1,t2⟩,hp,h⟩:=Option.bind_eq_some_iff.1 h;exact buz.go k a0_0 kk M l1.length A1 c1 l1 t1 t2 r w hb (by omega) (by omega) rfl hc1 hr1 hp (fun ht=>by dsimp only at h;rwa [Ya ht] at h) (fun ht=>by dsimp only at h;rw [Yb ht] at h;cases h;rfl)
  ·rw [Yb hl] at h;cases h
   exact buz.nolen a0_0 a0_1 a0_2 A1 c1 l1.length w hb (by omega) hl
def aNz.f (a0:Int):Option (ByteArray×Int×Int×Int×Int×Bool):=if a0=1 then (some ((⟨#[106,118]⟩:ByteArray),8,285,106,4,true)) else (if a0=2 then (some ((⟨#[106,99]⟩:ByteArray),16,69643,106,4,true)) else (if a0=3 then (some ((⟨#[105,114]⟩:ByteArray),8,285,105,3,true)) else (if a0=4 then (some ((⟨#[105,99]⟩:ByteArray),8,285,105,4,true)) else (if a0=5 then (some ((⟨#[98,98]⟩:ByteArray),8,285,98,4,true)) else (if a0=6 then (some ((⟨#[107,112]⟩:ByteArray),8,285,112,4,true)) else (some ((⟨#[]⟩:ByteArray),0,0,0,0,false)))))))
theorem aNz.calls (a0:Int) (r1:ByteArray) (r2:Int) (r3:Int) (r4:Int) (r5:Int) (r6:Bool) (w:World) (h:aNz.f a0=some (r1,r2,r3,r4,r5,r6)):
 Calls Tryz.prog 50 #[.int .i64 a0] w fun e w'=>e= .returned (.tuple #[.agg #[.string r1, .int .i64 r2, .int .u32 r3, .int .u8 r4, .int .i64 r5], .bool r6])/\Below w.heap.size w w':=by
 have hu79:=Tryz.underlying79;have HB:=Za (Zw w.heap.size w);have HH:=Za h;clear h;go_enter Tryz.func50,Tryz.ntmps50
 go_wp2_with (first|((with_reducible refine aMz (N:=2) rfl ?_);refine b4z ?hg (N:=2) ?hd (cs:= #[.string (⟨#[]⟩:ByteArray), .int .i64 0, .int .u32 0, .int .u8 0, .int .i64 0]) (t:=79) ?hr ?_;(case hd=>rfl);(case hg=>rfl);(case hr=>first|(go_simp;done)|(go_simp;rfl));intro gb135 hg w3 hbox hb;have n_:=Zb (hs_ HB hb) (Zb (Za (hbox)) (Zb (ag_ HB gb135) (ag_ HB gb135)));clear HB;obtain ⟨HB,BK135,GW135,GE135⟩:=n_;clear hb hbox hg;obtain ⟨_,_,_,_,_,_,_,_,_,_⟩:=bc5_ BK135.out))
 all_goals
  have H:=HH.out;unfold aNz.f at H;refine bodyPost_ret (results_ct rfl _ _ gb135 79 _ (0,0) _ rfl (by first|exact bp5_4 (bp5_3 (bp5_2 (bp5_1 (bp5_0 BK135.out))))|exact BK135.out) Tryz.underlying79 rfl kr_) rfl ?_;refine ⟨?_,bl_⟩
  simp_all
 all_goals (obtain ⟨rfl,rfl,rfl,rfl,rfl,rfl⟩:=H;simp)
end Go.Proofs.Xc
end
