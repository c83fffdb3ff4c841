-- Joined texts of this work (wip/tools/bundle.py).
import Derived.Lib.Bytes
import Derived.WideShapes
import Derived.ChangeSlices
import Derived.Test.YtpdakdcmahlghaaGreatBTrialTells20
section
namespace Go.Proofs.Xc
open Go.RowKit Go.Proofs.Pw Go.Proofs.Pl Go.Proofs.Pm
attribute [local go_sem] bcz bdz bpz bqz a4z a5z bez bfz
set_option linter.unusedVariables false
set_option linter.unusedSimpArgs false
theorem rof_eq (q:Int):aNz.f q=bsz.f q:=by
 unfold aNz.f bsz.f;rfl
theorem cUz (q k m:Int):aRz.f q k m=aCz.f q k m:=by
 unfold aRz.f aCz.f;rw [rof_eq]
theorem may_m3 {k m:Int} (h:aCz.f 3 k m=some true):m<=3:=by
 have hm:=cDz h;unfold aCz.f at h;rw [show bsz.f 3=some ((⟨#[105,114]⟩:ByteArray),8,285,105,3,true) from rfl,Zl] at h;dsimp only at h;rw [Ya rfl,Ya (by omega),Ya (by omega),Ya (by omega)] at h;exact Zc (Zn h)
theorem rof_ev (q:Int) (h1:1<=q) (h2:q<=6): ∃(t:ByteArray) (l mm:Int),aNz.f q=some (t,pbits q,fpoly (pbits q),l,mm,true):=by
 have hq:q=1\/q=2\/q=3\/q=4\/q=5\/q=6:=by omega
 rcases hq with rfl|rfl|rfl|rfl|rfl|rfl<;>exact ⟨_,_,_,rfl⟩
theorem rpar_ev (q:Int) (K M:Nat) (hmay:aCz.f q (K:Int) (M:Int)=some true):Ev (fun k=>bwz.f k q (K:Int) (M:Int)) (parM q K M,true):=by
 obtain ⟨p1,p2,k1,k2,m1,m2⟩:=cDz hmay;have hgd:=d7z q K M (by omega) (by omega) (by omega) (by omega);have hq:q=1\/q=2\/q=3\/q=4\/q=5\/q=6:=by omega
 have hM3:q=3->M<=3:=fun e=>by rw [e] at hmay;have:=may_m3 hmay;omega
 refine Ev.of (fun k=>bwz.mono _ _ _ k) (k:=3000) ?_;unfold bwz.f;rw [cUz,hmay,Zl,Ya rfl];rcases hq with rfl|rfl|rfl|rfl|rfl|rfl
 ·rw [show aNz.f 1=some ((⟨#[106,118]⟩:ByteArray),8,285,106,4,true) from rfl,Zl,Ya rfl];dsimp only;rw [rpar_1 K M (by omega) (by omega) (by omega) (by omega),Zl];rfl
 ·rw [show aNz.f 2=some ((⟨#[106,99]⟩:ByteArray),16,69643,106,4,true) from rfl,Zl,Yb (by decide),Ya rfl];dsimp only;rw [rpar_2 K M (by omega) (by omega) (by omega) (by omega),Zl,par2_tab K M (by omega) (by omega)]
 ·rw [show aNz.f 3=some ((⟨#[105,114]⟩:ByteArray),8,285,105,3,true) from rfl,Zl,Yb (by decide),Yb (by decide),Ya rfl];dsimp only;rw [rpar_3 K M (by omega) (by omega) (by omega) (hM3 rfl),Zl];rfl
 ·rw [show aNz.f 4=some ((⟨#[105,99]⟩:ByteArray),8,285,105,4,true) from rfl,Zl,Yb (by decide),Yb (by decide),Yb (by decide),Ya rfl];dsimp only;rw [rpar_4 K M (by omega) (by omega) (by omega) (by omega),Zl];rfl
 all_goals
  have hsy:((sysM 8 K M).drop K).length=M:=hgd.2;rw [List.length_drop] at hsy
 ·rw [show aNz.f 5=some ((⟨#[98,98]⟩:ByteArray),8,285,98,4,true) from rfl,Zl,Yb (by decide),Yb (by decide),Yb (by decide),Yb (by decide)];dsimp only;rw [rpar_5 K M (by omega) (by omega) (by omega) (by omega),Zl,Ya (by omega),Ya (by dsimp only;omega),Zu];rfl
 ·rw [show aNz.f 6=some ((⟨#[107,112]⟩:ByteArray),8,285,112,4,true) from rfl,Zl,Yb (by decide),Yb (by decide),Yb (by decide),Yb (by decide)];dsimp only;rw [rpar_5 K M (by omega) (by omega) (by omega) (by omega),Zl,Ya (by omega),Ya (by dsimp only;omega),Zu];rfl
theorem rlay_ev (q:Int) (h1:1<=q) (h2:q<=6) (x y:Int): ∃c:Int,bOz.f q x y=some c/\b8z.f c=some (unitN q:Int)/\(q=5->c=98)/\(q≠5->c≠98):=by
 have hq:q=1\/q=2\/q=3\/q=4\/q=5\/q=6:=by omega
 rcases hq with rfl|rfl|rfl|rfl|rfl|rfl<;>exact ⟨_,rfl,rfl,by decide,by decide⟩
theorem rsize_l (q : Int) (h1 : 1 <= q) (h2 : q <= 6) (K n t : Nat) (y : Int) (hK : 1 <= K) (hK8 : K <= 8) (hn : n <= 5000) (ht : t = max ((n + unitN q * K - 1) / (unitN q * K)) 1) :
  ∀(m j:Nat),j+m=t->1<=j->Ev (fun k=>aEz.l0 k (n:Int) ((unitN q*j:Nat):Int) q (K:Int) y) (((unitN q*t:Nat):Int),0):=by
 obtain ⟨c,e1,e2, -⟩:=rlay_ev q h1 h2 (K:Int) y;have hu:=euz q;obtain ⟨D,hD⟩: ∃D,unitN q*K=D:=⟨_,rfl⟩;have hD1:1<=D:=by rw [<-hD];exact Nat.mul_pos hu.1 hK
 rw [hD] at ht
 have hq0:(n+D - 1) / D<=n:=by
  rcases Nat.eq_zero_or_pos n with rfl|hp
  ·rw [Nat.div_eq_of_lt (by omega)];exact Zv _
  ·refine (Nat.div_le_iff_le_mul_add_pred hD1).2 ?_;have:n<=D*n:=Nat.le_mul_of_pos_left n hD1;omega
 have ht5:t<=5001:=by omega
 intro m
 induction m with
 |zero=>
  intro j hj _;obtain rfl:j=t:=by omega
  have hge:n<=j*D:=by
   have a1:=Nat.div_add_mod (n+D - 1) D;have a2:=Nat.mod_lt (n+D - 1) (show 0<D from hD1);have a3:D*((n+D - 1) / D)<=D*j:=Nat.mul_le_mul_left _ (by omega);rw [Nat.mul_comm j D];omega
  have hb:unitN q*j<=16*5001:=Nat.mul_le_mul hu.2 ht5;have hb2:unitN q*j*K<=16*5001*8:=Nat.mul_le_mul hb hK8;have e3:unitN q*j*K=j*D:=by rw [<-hD,Nat.mul_right_comm,Nat.mul_comm]
  refine Ev.step (f:=fun _=>some (((unitN q*j:Nat):Int),0)) (fun k=> ?_) (Ev.now _);rw [aEz.l0, <-Int.natCast_mul,w64 (by omega) (by omega),e3,Yb (by omega)]
 |succ m ih=>
  intro j hj hj1
  have hlt:j*D<n:=by
   have h3:j<(n+D - 1) / D:=by omega
   have h4:=(Nat.le_div_iff_mul_le hD1).1 (show j+1<=(n+D - 1) / D from h3);rw [Nat.add_mul,Nat.one_mul] at h4;omega
  have hb:unitN q*j<=16*5001:=Nat.mul_le_mul hu.2 (by omega);have hb2:unitN q*j*K<=16*5001*8:=Nat.mul_le_mul hb hK8;have e3:unitN q*j*K=j*D:=by rw [<-hD,Nat.mul_right_comm,Nat.mul_comm]
  refine Ev.step (fun k=> ?_) (ih (j+1) (by omega) (by omega));rw [aEz.l0, <-Int.natCast_mul,w64 (x:=((unitN q*j*K:Nat):Int)) (by omega) (by omega),e3,Ya (by omega),e1,Zl,e2,Zl,w64 (by omega) (by omega),show ((unitN q*j:Nat):Int)+(unitN q:Int)=((unitN q*(j+1):Nat):Int) by rw [Nat.mul_add,Nat.mul_one];omega]
theorem rsize_ev (q:Int) (K M n:Nat) (hmay:aCz.f q (K:Int) (M:Int)=some true) (hn:n<=4096):Ev (fun k=>aEz.f k q (K:Int) (M:Int) (n:Int)) ((sizeN q K n:Int),0):=by
 obtain ⟨p1,p2,k1,k2,m1,m2⟩:=cDz hmay;obtain ⟨c,e1,e2,e3,e4⟩:=rlay_ev q p1 p2 (K:Int) (M:Int);have ha:=aheadN_bd q;have h1:=rsize_l q p1 p2 K (n+aheadN q) _ (M:Int) (by omega) (by omega) (by omega) rfl (max ((n+aheadN q+unitN q*K - 1) / (unitN q*K)) 1 - 1) 1 (by omega) (Zv _);rw [Nat.mul_one] at h1
 have h2:Ev (fun k=>aEz.j1 k ((n+aheadN q:Nat):Int) q (K:Int) (M:Int)) ((sizeN q K n:Int),0):=by
  refine Ev.step (fun k=> ?_) h1;rw [aEz.j1,e1,Zl,e2,Zl]
 refine Ev.congr (fun k=>by unfold aEz.f;rw [cUz,hmay,Zl,Ya rfl,show decide ((n:Int)<0)=false by simp]) ?_;refine Ev.step (fun k=> ?_) h2;rw [aEz.j0,Yb (by decide),Yb (by omega),e1,Zl];by_cases h5:q=5
 ·rw [Ya (e3 h5),w64 (by omega) (by omega),show aheadN q=4 by unfold aheadN;rw [Ya h5]];rfl
 ·rw [Yb (e4 h5),show aheadN q=0 by unfold aheadN;rw [Yb h5]];rfl
theorem foldB_nat: ∀(A:List (List Nat)) (a:List Nat),(∀x,x∈a->x<256)->(∀r,r∈A-> ∀x,x∈r->x<256)->(A.map castN).foldl xorB (castN a)=castN (A.foldl xorN a)
 | [],_,_,_=>rfl
 |r::A,a,ha,hA=>by
  have hr:=hA r (List.mem_cons_self ..);have ih:=foldB_nat A (xorN a r) (xorN_lt (w:=8) a r ha hr) (fun q hq=>hA q (List.mem_cons_of_mem _ hq));show (A.map castN).foldl xorB (xorB (castN a) (castN r))=_;rw [show xorB (castN a) (castN r)=castN (xorN a r) from xorB_nat a r ha hr,ih];rfl
def dotN (S:Nat) (wb:Int) (c:List Int) (P:List (List Nat)):List Nat:=(List.zipWith (mulN wb) c P).foldl xorN (List.replicate S 0)
theorem zipM_nat {wb:Int} (hw:wb=8\/wb=16): ∀(c:List Int) (P:List (List Nat)),(∀r,r∈P->(∀x,x∈r->x<256)/\r.length % wN wb=0)->List.zipWith (mulB wb) c (P.map castN)=(List.zipWith (mulN wb) c P).map castN
 | [],_,_=>by simp
 |_::_, [],_=>by simp
 |x::c,r::P,h=>by
  have hr:=h r (List.mem_cons_self ..);simp only [List.map_cons,List.zipWith_cons_cons];rw [mulB_nat hw x r hr.1 hr.2,zipM_nat hw c P (fun q hq=>h q (List.mem_cons_of_mem _ hq))]
theorem dotV_nat {wb:Int} (hw:wb=8\/wb=16) (S:Nat) (c:List Int) (P:List (List Nat)) (h: ∀r,r∈P->(∀x,x∈r->x<256)/\r.length % wN wb=0):dotV S wb c (P.map castN)=castN (dotN S wb c P):=by
 unfold dotV sumB dotN;rw [zipM_nat hw c P h,show (List.replicate S (0:Int))=castN (List.replicate S 0) by unfold castN;simp];refine foldB_nat _ _ (fun x hx=>by rw [List.eq_of_mem_replicate hx];omega) (fun r hr x hx=> ?_);obtain ⟨i,hi,rfl⟩:=List.mem_iff_getElem.1 hr;rw [List.getElem_zipWith] at hx;exact mulN_lt _ _ _ x hx
theorem sum_bad0 (rows : List (List Int)) (L : Nat) (hL : L <= 100000000) (hn : rows.length <= 1000) (j : Nat) (b : List Int) (hj : rows[j]? = some b) (hb : b.length ≠ L) :
  ∀(m i:Nat) (acc:List Int),i+m=rows.length->acc.length=L->i<=j-> ∃K,aLz.l0 K acc rows (rows.length:Int) (i:Int)=some ([],1)
 |0,i,acc,hi,_,hij=>by
  have:=(Zk hj).1;omega
 |m+1,i,acc,hi,ha,hij=>by
  obtain ⟨row,hrow⟩: ∃r,rows[i]?=some r:=⟨_,Zf (by omega)⟩;have hrd:rd_L1 rows (i:Int)=row:=by unfold rd_L1;rw [Zu,Zm,hrow];rfl
  by_cases hrl:row.length=L
  ·have hne : i ≠ j := fun e => by
    subst e;rw [hrow] at hj;obtain rfl:=Zn hj;exact hb hrl
   obtain ⟨K,hK⟩:=sum_bad0 rows L hL hn j b hj hb m (i+1) (xorB acc row) (by omega) (by rw [dbz _ _ (by omega)];exact hrl) (by omega);have h1:=sum_l1 rows (rows.length:Int) i acc row _ K (by omega) (by omega) (by omega) hK row.length 0 (by omega);refine ⟨K+row.length+1+1,?_⟩;unfold aLz.l0;rw [Ya (by omega),Ya (by omega),Ya (by omega),hrd,Ya (by omega)]
   simpa using h1
  ·refine ⟨1,?_⟩;unfold aLz.l0;rw [Ya (by omega),Ya (by omega),Ya (by omega),hrd,Yb (by omega)]
theorem sum_bad (rows:List (List Int)) (L:Nat) (hL:L<=100000000) (hn:rows.length<=1000) (a b:List Int) (h0:rows[0]?=some a) (ha:a.length=L) (j:Nat) (hj:rows[j]?=some b) (hb:b.length≠L):Ev (fun k=>aLz.f k rows) ([],1):=by
 have hl:=(Zk h0).1;have hrd:rd_L1 rows 0=a:=by unfold rd_L1;rw [show (0:Int).toNat=0 from rfl,Zm,h0];rfl
 obtain ⟨K,hK⟩:=sum_bad0 rows L hL hn j b hj hb rows.length 0 (List.replicate L 0) (by omega) (by simp) (by omega);refine Ev.of (fun k=>aLz.mono _ k) (k:=K) ?_;unfold aLz.f;rw [Ya (by omega),hrd,Ya (by omega),Ya (by omega),ha,Zu];exact hK
theorem dotB_bad (wb:Int) (c:List Int) (D:List (List Int)) (L:Nat) (hc:c.length=D.length) (hn:D.length<=1000) (hr: ∀r,r∈D->r.length<=1000000) (a b:List Int) (h0:D[0]?=some a) (ha:a.length=L) (j:Nat) (hj:D[j]?=some b) (hb:b.length≠L):Ev (fun k=>dotB k wb c D) ([],1):=by
 unfold dotB;by_cases he:D.all (evB wb)=true
 ·refine Ev.congr (fun k=>by rw [Ya he]) ?_
  have hev: ∀r,r∈D->r.length % wN wb=0:=fun r hm=>by
   have:=List.all_eq_true.1 he r hm;unfold evB at this;exact eq_of_beq this
  have hz: ∀(i:Nat) (r:List Int),D[i]?=some r-> ∃x,(List.zipWith (mulB wb) c D)[i]?=some x/\x.length=r.length:=fun i r hi=>by
   have:=(Zk hi).1;refine ⟨mulB wb (c[i]'(by omega)) r,?_,mulB_len wb _ r (hev r (Zo hi))⟩;rw [List.getElem?_zipWith,Zf (l:=c) (by omega),hi]
  obtain ⟨x,hx,hxl⟩:=hz 0 a h0;obtain ⟨y,hy,hyl⟩:=hz j b hj;have:=hr a (Zo h0);exact sum_bad _ L (by omega) (by rw [List.length_zipWith];omega) x y hx (by omega) j hy (by omega)
 ·exact Ev.congr (fun k=>by rw [Yb he]) (Ev.now _)
theorem xorN_len2 {S:Nat} {a b:List Nat} (ha:a.length=S) (hb:b.length=S):(xorN a b).length=S:=by simp [xorN,ha,hb]
theorem mulN_len {wb:Int} (hw:wb=8\/wb=16) (c:Int) (n:List Nat) (hb: ∀x,x∈n->x<256) (he:n.length % wN wb=0):(mulN wb c n).length=n.length:=by
 have h:=mulB_len wb c (castN n) (by simpa [castN] using he);rw [mulB_nat hw c n hb he] at h
 simpa [castN] using h
theorem foldN_lt: ∀(A:List (List Nat)) (a:List Nat),(∀x,x∈a->x<256)->(∀r,r∈A-> ∀x,x∈r->x<256)-> ∀x,x∈A.foldl xorN a->x<256
 | [],_,h,_=>h
 |r::rs,a,h,hr=>foldN_lt rs (xorN a r) (xorN_lt (w:=8) a r h (hr r (List.mem_cons_self ..))) (fun q hq=>hr q (List.mem_cons_of_mem _ hq))
theorem dotN_lt (S:Nat) (wb:Int) (c:List Int) (P:List (List Nat)): ∀x,x∈dotN S wb c P->x<256:=by
 unfold dotN;refine foldN_lt _ _ (fun x hx=> ?_) (fun r hr=> ?_)
 ·have:=List.eq_of_mem_replicate hx;omega
 ·obtain ⟨i,hi,rfl⟩:=List.mem_iff_getElem.1 hr;rw [List.getElem_zipWith];exact mulN_lt _ _ _
theorem rin_f (k:Nat) {wb:Int} (hw:wb=8\/wb=16) (a:Int):afz.f k wb a=some (inF wb a):=by
 unfold afz.f;rw [Ya hw]
theorem rmul2_f (k:Nat) {wb:Int} (hw:wb=8\/wb=16) (a b:Int):aAz.f k wb (fpoly wb) a b=some (gmul wb a b):=by
 unfold aAz.f;rw [rin_f k hw a,Zl];by_cases ha:inF wb a=true
 ·rw [Ya ha,rin_f k hw b,Zl];by_cases hb:inF wb b=true
  ·have hlt:=bRz hw a b;have e:gmul wb a b=((gmN wb a.toNat b.toNat:Nat):Int):=by unfold gmul;rw [ha,hb];rfl
   have hf:=dtz hw;rw [Ya hb];unfold inF at ha hb;simp only [Bool.and_eq_true,decide_eq_true_eq] at ha hb;have e1:a % 4294967296=a:=by omega
   have e2:b % 4294967296=b:=by omega
   rw [e1,e2]
   have hm:aJz.f k a b (fpoly wb)=some (gmul wb a b):=by
    rw [e];unfold aJz.f gmN;rcases hw with rfl|rfl
    ·rw [Ya ⟨rfl,by unfold inF;simp;omega,by unfold inF;simp;omega⟩,Ya rfl]
    ·rw [Yb (fun h=>Yf h.1 (by decide)),Ya ⟨rfl,by unfold inF;simp;omega,by unfold inF;simp;omega⟩,Yb (by decide)]
   rw [hm,Zl,w64 (by omega) (by omega)]
  ·rw [Yb hb,gmul_out (by simp [hb])]
 ·rw [Yb ha,gmul_out (by simp [ha])]
theorem b0z (n:List Nat):(castN n).length=n.length:=by unfold castN;rw [List.length_map]
theorem eYz (a b:List Nat):castN (a++b)=castN a++castN b:=by unfold castN;rw [List.map_append]
theorem ekz (n:List Nat) (i:Nat) (x:Nat) (h:n[i]?=some x):rd (castN n) (i:Int)=(x:Int):=by
 unfold rd castN;rw [Zu,Zm,List.getElem?_map,h];rfl
theorem rwords8_l (n:List Nat) (hb: ∀x,x∈n->x<256) (hl:n.length<=1000000): ∀(m i:Nat),i+m=n.length->Ev (fun k=>aYz.l0 k (castN n) (castN (n.take i)) 1 (i:Int)) (castN n,true):=by
 intro m
 induction m with
 |zero=>
  intro i hi;refine Ev.step (f:=fun _=>some (castN n,true)) (fun k=> ?_) (Ev.now _);rw [aYz.l0,b0z,w64 (by omega) (by omega),Yb (by omega),Yb (by decide),List.take_of_length_le (by omega)];congr 2
  simp
 |succ m ih=>
  intro i hi;obtain ⟨x,hx⟩: ∃x,n[i]?=some x:=⟨_,Zf (by omega)⟩;have hx8:=hb x (Zo hx);refine Ev.step (fun k=> ?_) (ih (i+1) (by omega));rw [aYz.l0,b0z,w64 (x:=(i:Int)+1) (by omega) (by omega),Ya (by omega),Ya (by omega),Ya (by omega),Yb (by decide),b0z,Ya (by rw [List.length_take];omega),ekz n i x hx,w64 (x:=(x:Int)) (by omega) (by omega),List.take_add_one,hx,eYz,show ((i:Int)+1)=((i+1:Nat):Int) by omega];rfl
theorem rwords16_l (n:List Nat) (hb: ∀x,x∈n->x<256) (hl:n.length<=1000000) (he:n.length % 2=0): ∀(m j:Nat),2*j+2*m=n.length->Ev (fun k=>aYz.l0 k (castN n) (castN (pairN (n.take (2*j)))) 2 ((2*j:Nat):Int)) (castN (pairN n),true):=by
 intro m
 induction m with
 |zero=>
  intro j hj;refine Ev.step (f:=fun _=>some (castN (pairN n),true)) (fun k=> ?_) (Ev.now _);rw [aYz.l0,b0z,w64 (by omega) (by omega),Yb (by omega),Yb (by decide),List.take_of_length_le (by omega)];congr 2
  have:(n.length:Int) % 2=0:=by omega
  rw [this];rfl
 |succ m ih=>
  intro j hj;obtain ⟨x,hx⟩: ∃x,n[2*j]?=some x:=⟨_,Zf (by omega)⟩;obtain ⟨y,hy⟩: ∃y,n[2*j+1]?=some y:=⟨_,Zf (by omega)⟩;have hx8:=hb x (Zo hx);have hy8:=hb y (Zo hy)
  have e3:n.take (2*(j+1))=n.take (2*j)++ [x,y] :=by
   rw [show 2*(j+1)=2*j+1+1 by omega,List.take_add_one,List.take_add_one,hx,hy];simp
  have hpl:(pairN (n.take (2*j))).length<=1000000:=by rw [eIz,List.length_take];omega
  refine Ev.step (fun k=> ?_) (ih (j+1) (by omega));rw [aYz.l0,b0z,w64 (x:=((2*j:Nat):Int)+2) (by omega) (by omega),w64 (x:=((2*j:Nat):Int)+1) (by omega) (by omega),Ya (by omega),Ya (by omega),Ya (by omega),Ya rfl,Ya (by omega),Ya (by omega),b0z,Ya (by omega),ekz n (2*j) x hx,show (((2*j:Nat):Int)+1)=((2*j+1:Nat):Int) by omega,ekz n (2*j+1) y hy,w64 (x:=(x:Int)) (by omega) (by omega),w64 (x:=(y:Int)) (by omega) (by omega),w64 (x:=256*(y:Int)) (by omega) (by omega),w64 (x:=(x:Int)+256*(y:Int)) (by omega) (by omega),show (((2*j:Nat):Int)+2)=((2*(j+1):Nat):Int) by omega,e3,eXz x y _ (by rw [List.length_take];omega),eYz];congr 2
theorem rwords_ev {wb:Int} (hw:wb=8\/wb=16) (n:List Nat) (hb: ∀x,x∈n->x<256) (hl:n.length<=1000000) (he:n.length % wN wb=0):Ev (fun k=>aYz.f k wb (castN n)) (castN (if wb=8 then n else pairN n),true):=by
 rcases hw with rfl|rfl
 ·rw [Ya rfl];refine Ev.congr (fun k=> ?_) (rwords8_l n hb hl n.length 0 (by omega));unfold aYz.f;rw [show wrap64 (Int.tdiv 8 8)=1 by show wrap64 1=1;unfold wrap64;omega];rfl
 ·rw [Yb (by decide)];refine Ev.congr (fun k=> ?_) (rwords16_l n hb hl he (n.length / 2) 0 (by have:n.length % 2=0:=he;omega));unfold aYz.f;rw [show wrap64 (Int.tdiv 16 8)=2 by show wrap64 2=2;unfold wrap64;omega];simp [castN,pairN]
theorem rbytes8_l (n:List Nat) (hb: ∀x,x∈n->x<256) (hl:n.length<=1000000): ∀(m i:Nat),i+m=n.length->Ev (fun k=>aZz.l0 k 8 (castN n) (castN (n.take i)) (i:Int)) (castN n,true):=by
 intro m
 induction m with
 |zero=>
  intro i hi;refine Ev.step (f:=fun _=>some (castN n,true)) (fun k=> ?_) (Ev.now _);rw [aZz.l0,b0z,Yb (by omega),List.take_of_length_le (by omega)]
 |succ m ih=>
  intro i hi;obtain ⟨x,hx⟩: ∃x,n[i]?=some x:=⟨_,Zf (by omega)⟩;have hx8:=hb x (Zo hx);have hin:inF 8 (x:Int)=true:=by unfold inF;rw [show fsize 8=256 from rfl];simp;omega
  refine Ev.step (fun k=> ?_) (ih (i+1) (by omega));rw [aZz.l0,b0z,Ya (by omega),Ya (by omega),ekz n i x hx,rin_f k (.inl rfl),Zl,Ya hin,b0z,Ya (by rw [List.length_take];omega),Zl,Yb (by decide),w64 (by omega) (by omega),List.take_add_one,hx,eYz,show ((i:Int)+1)=((i+1:Nat):Int) by omega,Int.tmod_eq_emod_of_nonneg (by omega),show ((x:Int) % 256 % 256)=(x:Int) by omega];rfl
theorem flatN_snoc (x:Nat): ∀l:List Nat,flatN (l++ [x])=flatN l++flatN [x]
 | [] =>rfl
 |y::l=>by
  have:=flatN_snoc x l;simp only [List.cons_append,flatN] at this|-;rw [this]
theorem flatN_len: ∀l:List Nat,(flatN l).length=2*l.length
 | [] =>rfl
 |y::l=>by
  have:=flatN_len l;simp only [flatN,List.length_cons] at this|-;omega
theorem rbytes16_l (n:List Nat) (hb: ∀x,x∈n->x<65536) (hl:n.length<=1000000): ∀(m i:Nat),i+m=n.length->Ev (fun k=>aZz.l0 k 16 (castN n) (castN (flatN (n.take i))) (i:Int)) (castN (flatN n),true):=by
 intro m
 induction m with
 |zero=>
  intro i hi;refine Ev.step (f:=fun _=>some (castN (flatN n),true)) (fun k=> ?_) (Ev.now _);rw [aZz.l0,b0z,Yb (by omega),List.take_of_length_le (by omega)]
 |succ m ih=>
  intro i hi;obtain ⟨x,hx⟩: ∃x,n[i]?=some x:=⟨_,Zf (by omega)⟩;have hx8:=hb x (Zo hx);have hin:inF 16 (x:Int)=true:=by unfold inF;rw [show fsize 16=65536 from rfl];simp;omega
  have hfl:=flatN_len (n.take i);rw [List.length_take] at hfl
  have e5:castN (flatN [x])= [(x:Int) % 256 % 256] ++ [(x:Int) / 256 % 256] :=by
   simp only [castN,flatN,List.map_cons,List.map_nil,List.cons_append,List.nil_append];rw [show ((x % 256:Nat):Int)=(x:Int) % 256 % 256 by omega,show ((x / 256 % 256:Nat):Int)=(x:Int) / 256 % 256 by omega]
  refine Ev.step (fun k=> ?_) (ih (i+1) (by omega));rw [aZz.l0,b0z,Ya (by omega),Ya (by omega),ekz n i x hx,rin_f k (.inr rfl),Zl,Ya hin,b0z,Ya (by omega),Zl,Ya rfl,List.length_append,b0z,Ya (by simp;omega),w64 (x:=(i:Int)+1) (by omega) (by omega),Int.tdiv_eq_ediv_of_nonneg (by omega),w64 (x:=(x:Int) / 256) (by omega) (by omega),List.take_add_one,hx,Option.toList_some,flatN_snoc,eYz,show ((i:Int)+1)=((i+1:Nat):Int) by omega,Int.tmod_eq_emod_of_nonneg (by omega),List.append_assoc,e5]
theorem rbytes_ev {wb:Int} (hw:wb=8\/wb=16) (n:List Nat) (hb: ∀x,x∈n->(x:Int)<fsize wb) (hl:n.length<=1000000):Ev (fun k=>aZz.f k wb (castN n)) (castN (if wb=8 then n else flatN n),true):=by
 rcases hw with rfl|rfl
 ·rw [Ya rfl];refine Ev.congr (fun k=>by unfold aZz.f;simp [castN]) (rbytes8_l n (fun x hx=>by have:=hb x hx;rw [show fsize 8=256 from rfl] at this;omega) hl n.length 0 (by omega))
 ·rw [Yb (by decide)]
  have h65: ∀x,x∈n->x<65536:=fun x hx=>by
   have:=hb x hx;rw [fsize16] at this;omega
  have h:=rbytes16_l n h65 hl n.length 0 (by omega);unfold aZz.f;exact h
theorem rmul3_l {wb : Int} (hw : wb = 8 \/ wb = 16) (c : Int) (n : List Nat) (hl : n.length <= 1000000) (r : List Int × Bool) (hr : Ev (fun k => (aZz.f k wb (castN (mapN (mN wb c) n))).bind fun t => some (t.1, t.2)) r) :
  ∀(m i:Nat),i+m=n.length->Ev (fun k=>a1z.l0 k wb (fpoly wb) c (castN n) (castN (mapN (mN wb c) (n.take i))) (i:Int)) r:=by
 intro m
 induction m with
 |zero=>
  intro i hi;refine Ev.step (fun k=> ?_) hr;rw [a1z.l0,b0z,Yb (by omega),List.take_of_length_le (by omega)]
 |succ m ih=>
  intro i hi;obtain ⟨x,hx⟩: ∃x,n[i]?=some x:=⟨_,Zf (by omega)⟩;have hg:=bRz hw c (x:Int);refine Ev.step (fun k=> ?_) (ih (i+1) (by omega));rw [a1z.l0,b0z,Ya (by omega),Ya (by omega),ekz n i x hx,rmul2_f k hw,Zl,b0z,Ya (by unfold mapN;rw [List.length_map,List.length_take];omega),w64 (by omega) (by omega),show ((i:Int)+1)=((i+1:Nat):Int) by omega,List.take_add_one,hx];congr 2
  unfold mapN castN mN;simp;omega
theorem rmul3_ev {wb:Int} (hw:wb=8\/wb=16) (c:Int) (hc:inF wb c=true) (n:List Nat) (hb: ∀x,x∈n->x<256) (hl:n.length<=1000000) (he:n.length % wN wb=0):Ev (fun k=>a1z.f k wb (fpoly wb) c (castN n)) (castN (mulN wb c n),true):=by
 refine Ev.bind (rwords_ev hw n hb hl he) ?_;refine Ev.congr (fun k=>by rw [Ya rfl,rin_f k hw,Zl,hc]) ?_;refine Ev.step (fun k=>by rw [a1z.j0,Yb (by decide)]) ?_;obtain ⟨q,hq⟩: ∃q,(if wb=8 then n else pairN n)=q:=⟨_,rfl⟩
 have hql:q.length<=1000000:=by
  rw [<-hq];split
  ·exact hl
  ·rw [eIz];omega
 have hml: ∀x,x∈mapN (mN wb c) q->(x:Int)<fsize wb:=by
  intro x hx;unfold mapN at hx;obtain ⟨y,hy,rfl⟩:=List.mem_map.1 hx;have:=bRz hw c (y:Int);unfold mN;omega
 have hB:=rbytes_ev hw (mapN (mN wb c) q) hml (by unfold mapN;rw [List.length_map];exact hql)
 have hfin:castN (mulN wb c n)=castN (if wb=8 then mapN (mN wb c) q else flatN (mapN (mN wb c) q)):=by
  unfold mulN;rcases hw with rfl|rfl
  ·rw [Ya rfl,Ya rfl, <-hq,Ya rfl]
  ·rw [Yb (by decide),Yb (by decide), <-hq,Yb (by decide)]
 rw [hq,hfin];exact rmul3_l hw c q hql _ (Ev.bind hB (Ev.now _)) q.length 0 (by omega)
theorem radd_l (a b:List Int) (hl:a.length=b.length) (hm:a.length<=1000000): ∀(m i:Nat),i+m=a.length->Ev (fun k=>aWz.l0 k a b ((xorB a b).take i) (i:Int)) (xorB a b,true):=by
 have hxl:(xorB a b).length=a.length:=by rw [dbz a b hl,hl]
 intro m
 induction m with
 |zero=>
  intro i hi;refine Ev.step (f:=fun _=>some (xorB a b,true)) (fun k=> ?_) (Ev.now _);rw [aWz.l0,Yb (by omega),List.take_of_length_le (by omega)]
 |succ m ih=>
  intro i hi;have hia:i<a.length:=by omega
  have hib:i<b.length:=by omega
  have e1:rd a (i:Int)=a[i] :=by unfold rd;rw [Zu,Zm,Zf hia];rfl
  have e2:rd b (i:Int)=b[i] :=by unfold rd;rw [Zu,Zm,Zf hib];rfl
  have e3:(xorB a b)[i]?=some (Go.bits .xor .u8 a[i] b[i]):=by
   unfold xorB;rw [List.getElem?_zipWith,Zf hia,Zf hib]
  refine Ev.step (fun k=> ?_) (ih (i+1) (by omega));rw [aWz.l0,Ya (by omega),Ya (by omega),Ya (by omega),Ya (by rw [List.length_take];omega),e1,e2,w64 (by omega) (by omega),show ((i:Int)+1)=((i+1:Nat):Int) by omega,List.take_add_one,e3];rfl
theorem radd_ev (a b:List Int) (hl:a.length=b.length) (hm:a.length<=1000000):Ev (fun k=>aWz.f k a b) (xorB a b,true):=by
 refine Ev.congr (fun k=> ?_) (radd_l a b hl hm a.length 0 (by omega));unfold aWz.f;rw [Ya (by omega)];rfl
theorem xor_zero_row (x:List Nat) (hb: ∀y,y∈x->y<256):xorN (List.replicate x.length 0) x=x:=by
 clear hb
 induction x with
 |nil=>rfl
 |cons y x ih=>
  unfold xorN at ih|-;rw [List.length_cons,List.replicate_succ,List.zipWith_cons_cons,ih,Nat.zero_xor]
theorem rdot_l {wb : Int} (hw : wb = 8 \/ wb = 16) (S : Nat) (hS : S <= 1000000) (he : S % wN wb = 0) (c : List Int) (P : List (List Nat)) (hc : c.length = P.length) (hcl : P.length <= 1000) (hin : ∀ x, x ∈ c -> inF wb x = true) (hP : ∀ r, r ∈ P -> r.length = S /\ ∀ x, x ∈ r -> x < 256) :
  ∀(m i:Nat),i+m=P.length->0<i->Ev (fun k=>alz.l0 k wb (fpoly wb) c (P.map castN) (castN (dotN S wb (c.take i) (P.take i))) (i:Int)) (castN (dotN S wb c P),true):=by
 intro m
 induction m with
 |zero=>
  intro i hi _;refine Ev.step (f:=fun _=>some (castN (dotN S wb c P),true)) (fun k=> ?_) (Ev.now _);rw [alz.l0,Yb (by omega),List.take_of_length_le (by omega),List.take_of_length_le (by omega)]
 |succ m ih=>
  intro i hi h0;obtain ⟨x,hx⟩: ∃x,c[i]?=some x:=⟨_,Zf (by omega)⟩;obtain ⟨r,hr⟩: ∃r,P[i]?=some r:=⟨_,Zf (by omega)⟩;obtain ⟨r0,hr0⟩: ∃r,P[0]?=some r:=⟨_,Zf (by omega)⟩;have hrP:=hP r (Zo hr);have hr0P:=hP r0 (Zo hr0);have e1:rd c (i:Int)=x:=by unfold rd;rw [Zu,Zm,hx];rfl
  have e2:rd_L1 (P.map castN) (i:Int)=castN r:=by unfold rd_L1;rw [Zu,Zm,List.getElem?_map,hr];rfl
  have e0:rd_L1 (P.map castN) 0=castN r0:=by unfold rd_L1;rw [show (0:Int).toNat=0 from rfl,Zm,List.getElem?_map,hr0];rfl
  have hz:List.zipWith (mulN wb) (c.take (i+1)) (P.take (i+1))=List.zipWith (mulN wb) (c.take i) (P.take i)++ [mulN wb x r] :=e4z _ _ _ _ _ _ hx hr;have hml:(mulN wb x r).length=S:=by rw [mulN_len hw x r hrP.2 (by rw [hrP.1];exact he),hrP.1]
  have hzl: ∀q,q∈List.zipWith (mulN wb) (c.take i) (P.take i)->q.length=S:=by
   intro q hq;obtain ⟨j,hj⟩:=List.getElem?_of_mem hq;rw [List.getElem?_zipWith] at hj
   cases hcj:(c.take i)[j]? with
   |none=>rw [hcj] at hj;simp at hj
   |some y=>
    cases hPj:(P.take i)[j]? with
    |none=>rw [hcj,hPj] at hj;simp at hj
    |some z=>
     rw [hcj,hPj] at hj;obtain rfl:=Zn hj;have hzP:=hP z (List.mem_of_mem_take (Zo hPj));rw [mulN_len hw y z hzP.2 (by rw [hzP.1];exact he),hzP.1]
  have hfl: ∀(zs:List (List Nat)) (a:List Nat),a.length=S->(∀q,q∈zs->q.length=S)->(zs.foldl xorN a).length=S:=by
   intro zs
   induction zs with
   |nil=>intro a ha _;exact ha
   |cons z zs ih2=>intro a ha h;exact ih2 _ (xorN_len2 ha (h z (List.mem_cons_self ..))) (fun q hq=>h q (List.mem_cons_of_mem _ hq))
  have hdl:(dotN S wb (c.take i) (P.take i)).length=S:=hfl _ _ List.length_replicate hzl
  have hzb: ∀q,q∈List.zipWith (mulN wb) (c.take i) (P.take i)-> ∀y,y∈q->y<256:=by
   intro q hq;obtain ⟨j,hj⟩:=List.getElem?_of_mem hq;rw [List.getElem?_zipWith] at hj
   cases hcj:(c.take i)[j]? with
   |none=>rw [hcj] at hj;simp at hj
   |some y=>
    cases hPj:(P.take i)[j]? with
    |none=>rw [hcj,hPj] at hj;simp at hj
    |some z=>
     rw [hcj,hPj] at hj;obtain rfl:=Zn hj;exact mulN_lt wb y z
  have hfb: ∀(zs:List (List Nat)) (a:List Nat),(∀y,y∈a->y<256)->(∀q,q∈zs-> ∀y,y∈q->y<256)-> ∀y,y∈zs.foldl xorN a->y<256:=by
   intro zs
   induction zs with
   |nil=>intro a ha _;exact ha
   |cons z zs ih2=>intro a ha h;exact ih2 _ (xorN_lt (w:=8) _ _ ha (h z (List.mem_cons_self ..))) (fun q hq=>h q (List.mem_cons_of_mem _ hq))
  have hdb: ∀y,y∈dotN S wb (c.take i) (P.take i)->y<256:=hfb _ _ (fun y hy=>by rw [List.mem_replicate] at hy;omega) hzb
  have hstep:dotN S wb (c.take (i+1)) (P.take (i+1))=xorN (dotN S wb (c.take i) (P.take i)) (mulN wb x r):=by
   unfold dotN;rw [hz,List.foldl_append];rfl
  have hnext:=ih (i+1) (by omega) (by omega);rw [hstep] at hnext;have hadd:=radd_ev (castN (dotN S wb (c.take i) (P.take i))) (castN (mulN wb x r)) (by rw [b0z,b0z,hdl,hml]) (by rw [b0z,hdl];exact hS);rw [show xorB (castN (dotN S wb (c.take i) (P.take i))) (castN (mulN wb x r))=castN (xorN (dotN S wb (c.take i) (P.take i)) (mulN wb x r)) from xorB_nat _ _ hdb (mulN_lt wb x r)] at hadd
  have hj2:Ev (fun k=>alz.j2 k wb (fpoly wb) c (P.map castN) (castN (dotN S wb (c.take i) (P.take i))) (i:Int) (castN (mulN wb x r)) false) (castN (dotN S wb c P),true):=by
   refine Ev.step (fun k=> ?_) (Ev.bind (f:=fun k t=>alz.l0 k wb (fpoly wb) c (P.map castN) t.1 ((i+1:Nat):Int)) hadd hnext);rw [alz.j2,Yb (by decide),Yb (by omega),w64 (by omega) (by omega)];rfl
  refine Ev.step (f:=fun k=>(a1z.f k wb (fpoly wb) x (castN r)).bind fun t=>if t.2=true then (if 0<((P.map castN).length:Int) then alz.j2 k wb (fpoly wb) c (P.map castN) (castN (dotN S wb (c.take i) (P.take i))) (i:Int) t.1 (((rd_L1 (P.map castN) (i:Int)).length:Int) !=((rd_L1 (P.map castN) 0).length:Int)) else none) else alz.j2 k wb (fpoly wb) c (P.map castN) (castN (dotN S wb (c.take i) (P.take i))) (i:Int) t.1 true) (fun k=> ?_) (Ev.bind (rmul3_ev hw x (hin x (Zo hx)) r hrP.2 (by omega) (by rw [hrP.1];exact he)) (Ev.congr (fun k=> ?_) hj2))
  ·rw [alz.l0,Ya (by omega),Ya (by omega),Ya (by rw [List.length_map];omega),e1]
   conv=>lhs;rw [e2]
   rw [e2]
  ·dsimp only;rw [Ya rfl,Ya (by rw [List.length_map];omega),e2,e0,b0z,b0z,hrP.1,hr0P.1,bne_self_eq_false]
theorem rdot_ev {wb : Int} (hw : wb = 8 \/ wb = 16) (S : Nat) (hS : S <= 1000000) (he : S % wN wb = 0) (c : List Int) (P : List (List Nat)) (hc : c.length = P.length) (hcl : P.length <= 1000) (h0 : 0 < P.length) (hin : ∀ x, x ∈ c -> inF wb x = true) (hP : ∀ r, r ∈ P -> r.length = S /\ ∀ x, x ∈ r -> x < 256) :
  Ev (fun k=>alz.f k wb (fpoly wb) c (P.map castN)) (castN (dotN S wb c P),true):=by
 obtain ⟨x,hx⟩: ∃x,c[0]?=some x:=⟨_,Zf (by omega)⟩;obtain ⟨r,hr⟩: ∃r,P[0]?=some r:=⟨_,Zf (by omega)⟩;have hrP:=hP r (Zo hr);have e1:rd c 0=x:=by unfold rd;rw [show (0:Int).toNat=0 from rfl,Zm,hx];rfl
 have e0:rd_L1 (P.map castN) 0=castN r:=by unfold rd_L1;rw [show (0:Int).toNat=0 from rfl,Zm,List.getElem?_map,hr];rfl
 have hml:(mulN wb x r).length=S:=by rw [mulN_len hw x r hrP.2 (by rw [hrP.1];exact he),hrP.1]
 have hone:dotN S wb (c.take 1) (P.take 1)=mulN wb x r:=by
  rw [List.take_add_one,List.take_add_one,hx,hr];unfold dotN;show xorN (List.replicate S 0) (mulN wb x r)=_;rw [<-hml];exact xor_zero_row _ (mulN_lt wb x r)
 have hnext:=rdot_l hw S hS he c P hc hcl hin hP (P.length - 1) 1 (by omega) (by omega);rw [hone] at hnext;refine Ev.congr (fun k=>by unfold alz.f;rw [Ya (by rw [List.length_map];omega),beq_eq_false_iff_ne.2 (show (c.length:Int)≠0 by omega)]) ?_;refine Ev.step (fun k=>by rw [alz.j0,Yb (by decide)]) ?_
 have hj2:Ev (fun k=>alz.j2 k wb (fpoly wb) c (P.map castN) ([] :List Int) 0 (castN (mulN wb x r)) false) (castN (dotN S wb c P),true):=by
  refine Ev.step (fun k=> ?_) hnext;rw [alz.j2,Yb (by decide),Ya rfl,show wrap64 (0+1)=((1:Nat):Int) by unfold wrap64;omega]
 refine Ev.step (f:=fun k=>(a1z.f k wb (fpoly wb) x (castN r)).bind fun t=>if t.2=true then (if 0<((P.map castN).length:Int) then alz.j2 k wb (fpoly wb) c (P.map castN) ([] :List Int) 0 t.1 (((rd_L1 (P.map castN) 0).length:Int) !=((rd_L1 (P.map castN) 0).length:Int)) else none) else alz.j2 k wb (fpoly wb) c (P.map castN) ([] :List Int) 0 t.1 true) (fun k=> ?_) (Ev.bind (rmul3_ev hw x (hin x (Zo hx)) r hrP.2 (by omega) (by rw [hrP.1];exact he)) (Ev.congr (fun k=> ?_) hj2))
 ·rw [alz.l0,Ya (by omega),Ya (by omega),Ya (by rw [List.length_map];omega),e1,e0]
 ·dsimp only;rw [Ya rfl,Ya (by rw [List.length_map];omega),bne_self_eq_false]
def evenP (wb:Int) (L:Nat) (r:List Int):Bool:=r.length==L&&evB wb r
theorem rd1_at (l:List (List Int)) (i:Nat) (r:List Int) (h:l[i]?=some r):rd_L1 l (i:Int)=r:=by
 unfold rd_L1;rw [Zu,Zm,h];rfl
theorem reven_l (wb : Int) (hw : wb = 8 \/ wb = 16) (L : Nat) (l : List (List Int)) (r0 : List Int) (h0 : l[0]? = some r0) (hL : r0.length = L) (hl : l.length <= 1000000) (hr : ∀ r, r ∈ l -> r.length <= 1000000) (t : ByteArray) (b c d : Int) :
  ∀(m i:Nat),i+m=l.length->Ev (fun k=>biz.l0 k l (i:Int) t wb b c d) ((l.drop i).all (evenP wb L)):=by
 intro m
 induction m with
 |zero=>
  intro i hi;refine Ev.step (f:=fun _=>some true) (fun k=> ?_) ?_
  ·rw [biz.l0,Yb (by omega)]
  ·rw [List.drop_of_length_le (by omega)];exact Ev.now _
 |succ m ih=>
  intro i hi;obtain ⟨r,hri⟩: ∃r,l[i]?=some r:=⟨_,Zf (by omega)⟩;have hrl:=hr r (Zo hri);have h0':rd_L1 l 0=r0:=rd1_at l 0 r0 h0
  have hd:l.drop i=r::l.drop (i+1):=by
   rw [List.drop_eq_getElem_cons (by omega)];congr 1
   exact Zn ((Zf (by omega)).symm.trans hri)
  rw [hd,List.all_cons];by_cases c1:r.length=L
  ·by_cases c2:evB wb r=true
   ·rw [show evenP wb L r=true by unfold evenP;rw [c2,c1];simp,Bool.true_and];refine Ev.step (fun k=> ?_) (ih (i+1) (by omega))
    have c3:Int.tmod (8*(r.length:Int)) wb=0:=by
     rw [Int.tmod_eq_emod_of_nonneg (by omega)];unfold evB at c2;have c2:=eq_of_beq c2;rcases hw with rfl|rfl
     ·omega
     ·rw [show wN 16=2 from rfl] at c2;omega
    rw [biz.l0,Ya (by omega),Ya (by omega),Ya (by omega),rd1_at l i r hri,h0',Ya (by omega),Yb (by omega),w64 (by omega) (by omega),Ya c3,w64 (by omega) (by omega),show ((i:Int)+1)=((i+1:Nat):Int) by omega]
   ·rw [show evenP wb L r=false by unfold evenP;rw [Bool.eq_false_iff.2 c2];simp,Bool.false_and];refine Ev.step (f:=fun _=>some false) (fun k=> ?_) (Ev.now _)
    have c3: ¬Int.tmod (8*(r.length:Int)) wb=0:=by
     rw [Int.tmod_eq_emod_of_nonneg (by omega)];intro h;apply c2
     unfold evB;rcases hw with rfl|rfl
     ·rw [show wN 8=1 from rfl,Nat.mod_one];rfl
     ·rw [show wN 16=2 from rfl,beq_iff_eq];omega
    rw [biz.l0,Ya (by omega),Ya (by omega),Ya (by omega),rd1_at l i r hri,h0',Ya (by omega),Yb (by omega),w64 (by omega) (by omega),Yb c3]
  ·rw [show evenP wb L r=false by unfold evenP;rw [beq_eq_false_iff_ne.2 c1];simp,Bool.false_and];refine Ev.step (f:=fun _=>some false) (fun k=> ?_) (Ev.now _);rw [biz.l0,Ya (by omega),Ya (by omega),Ya (by omega),rd1_at l i r hri,h0',Yb (by omega)]
theorem reven_ev (q : Int) (h1 : 1 <= q) (h2 : q <= 6) (x y : Int) (l : List (List Int)) (L : Nat) (r0 : List Int) (h0 : l[0]? = some r0) (hL : r0.length = L) (hl : l.length <= 1000000) (hr : ∀ r, r ∈ l -> r.length <= 1000000) :
  Ev (fun k=>biz.f k q x y l) (l.all (evenP (pbits q) L)):=by
 obtain ⟨t,b,c,he⟩:=rof_ev q h1 h2;refine Ev.congr (fun k=> ?_) (reven_l (pbits q) (eqz q) L l r0 h0 hL hl hr t (fpoly (pbits q)) b c l.length 0 (by omega));unfold biz.f;rw [he,Zl];rfl
theorem rpar_l (q : Int) (K M L : Nat) (P : List (List Nat)) (hL : L <= 1000000) (hd : L % wN (pbits q) = 0) (hP : ∀ r, r ∈ P -> r.length = L /\ ∀ x, x ∈ r -> x < 256) (h0 : 0 < P.length) (hn : P.length <= 1000) (rows : List (List Int)) (hrl : rows.length <= 1000) (hrows : ∀ r, r ∈ rows -> r.length = P.length /\ ∀ x, x ∈ r -> inF (pbits q) x = true) (t : ByteArray) (b c : Int) :
  ∀(m i:Nat),i+m=rows.length->Ev (fun k=>aqz.l0 k (P.map castN) rows ((rows.take i).map fun r=>castN (dotN L (pbits q) r P)) (i:Int) t (pbits q) (fpoly (pbits q)) b c) (rows.map (fun r=>castN (dotN L (pbits q) r P)),0):=by
 intro m
 induction m with
 |zero=>
  intro i hi;refine Ev.step (f:=fun _=>some (rows.map (fun r=>castN (dotN L (pbits q) r P)),0)) (fun k=> ?_) (Ev.now _);rw [aqz.l0,Yb (by omega),List.take_of_length_le (by omega)]
 |succ m ih=>
  intro i hi;obtain ⟨r,hri⟩: ∃r,rows[i]?=some r:=⟨_,Zf (by omega)⟩;have hrr:=hrows r (Zo hri)
  have e1:rd_L4 rows (i:Int)=r:=by
   unfold rd_L4;rw [Zu,Zm,hri];rfl
  have hnext:=ih (i+1) (by omega);rw [List.take_add_one,hri,Option.toList_some,List.map_append,List.map_singleton] at hnext;refine Ev.step (f:=fun k=>(alz.f k (pbits q) (fpoly (pbits q)) r (P.map castN)).bind fun u=>if ((rows.take i).map fun r=>castN (dotN L (pbits q) r P)).length<5864062014805 then aqz.l0 k (P.map castN) rows (((rows.take i).map fun r=>castN (dotN L (pbits q) r P))++ [u.1]) (wrap64 ((i:Int)+1)) t (pbits q) (fpoly (pbits q)) b c else none) (fun k=> ?_) (Ev.bind (rdot_ev (eqz q) L hL hd r P hrr.1 hn h0 hrr.2 hP) (Ev.congr (fun k=> ?_) hnext))
  ·rw [aqz.l0,Ya (by omega),Ya (by omega),e1]
  ·dsimp only;rw [Ya (by rw [List.length_map,List.length_take];omega),w64 (by omega) (by omega),show ((i:Int)+1)=((i+1:Nat):Int) by omega]
theorem bytes_nat (l:List (List Int)) (hb: ∀r,r∈l-> ∀x,x∈r->0<=x/\x<=255): ∃P:List (List Nat),l=P.map castN/\ ∀r,r∈P-> ∀x,x∈r->x<256:=by
 induction l with
 |nil=>exact ⟨[],rfl,fun r h=>by simp at h⟩
 |cons a l ih=>
  obtain ⟨P,e,h⟩:=ih (fun r hr=>hb r (List.mem_cons_of_mem _ hr));obtain ⟨n,hn,hn2⟩:=isB_of a (hb a (List.mem_cons_self ..));refine ⟨n::P,?_,fun r hr=> ?_⟩
  ·rw [e,hn];rfl
  ·rcases List.mem_cons.1 hr with rfl|hr
   ·exact hn2
   ·exact h r hr
theorem rpar11 (q x y : Int) (l : List (List Int)) (hl : l.length <= 1000) (hr : ∀ r, r ∈ l -> r.length <= 1000000) (hb : ∀ r, r ∈ l -> ∀ x, x ∈ r -> 0 <= x /\ x <= 255) :
  ∃(p:List (List Int)) (e:Int),Ev (fun k=>aqz.f k q x y l) (p,e)/\Ev (fun k=>aGz.f k q x y l) (p,e)/\p.length<=1000/\(∀r,r∈p->r.length<=1000000)/\(e=0\/e=1)/\(∀r,r∈p-> ∀x,x∈r->0<=x/\x<=255):=by
 have hbad: ∀(f:Nat->Option (List (List Int)×Int)),Ev f ([],1)->Ev (fun k=>aGz.f k q x y l) ([],1)->Ev (fun k=>f k) (([] :List (List Int)),(1:Int))/\Ev (fun k=>aGz.f k q x y l) (([] :List (List Int)),(1:Int))/\([] :List (List Int)).length<=1000/\(∀r,r∈([] :List (List Int))->r.length<=1000000)/\((1:Int)=0\/(1:Int)=1)/\(∀r,r∈([] :List (List Int))-> ∀x,x∈r->0<=x/\x<=255):=
  fun f h1 h2=>⟨h1,h2,Nat.zero_le _,fun r h=>by simp at h, .inr rfl,fun r h=>by simp at h⟩
 obtain ⟨mb,hmb⟩:=dXz q x y;have hj: ∀(a b c:Int),Ev (fun k=>aqz.j0 k l true a b c) ([],1):=fun a b c=>Ev.step (f:=fun _=>some ([],1)) (fun k=>by rw [aqz.j0,Ya rfl]) (Ev.now _)
 cases mb with
 |false=>
  refine ⟨[],1,hbad _ (Ev.congr (fun k=> ?_) (hj q x y)) (Ev.congr (fun k=> ?_) (Ev.now _))⟩
  ·unfold aqz.f;rw [cUz,hmb,Zl,Yb (by decide)]
  ·unfold aGz.f;rw [hmb,Zl,Yb (by decide)]
 |true=>
  obtain ⟨p1,p2,k1,k2,m1,m2⟩:=cDz hmb;obtain ⟨K,rfl⟩: ∃K:Nat,x=K:=⟨x.toNat,by omega⟩;obtain ⟨M,rfl⟩: ∃M:Nat,y=M:=⟨y.toNat,by omega⟩;have hgd:=d7z q K M (by omega) (by omega) (by omega) (by omega);by_cases hlen:(l.length:Int)=(K:Int)
  ·obtain ⟨r0,h0⟩: ∃r,l[0]?=some r:=⟨_,Zf (by omega)⟩;have hr0:=hr r0 (Zo h0);obtain ⟨L,hL⟩: ∃L,r0.length=L:=⟨_,rfl⟩;have hev:=reven_ev q p1 p2 (K:Int) (M:Int) l L r0 h0 hL (by omega) hr
   have hsm:aGz.small l=true:=by
    simp only [aGz.small,Bool.and_eq_true,decide_eq_true_eq,List.all_eq_true];exact ⟨by omega,hr⟩
   by_cases hall:l.all (evenP (pbits q) L)=true
   ·have hall' : ∀ r, r ∈ l -> r.length = L /\ r.length % wN (pbits q) = 0 := fun r hm => by
     have:=List.all_eq_true.1 hall r hm;unfold evenP evB at this
     simpa using this
    have hLd:L % wN (pbits q)=0:=by
     have:=hall' r0 (Zo h0);rw [this.1] at this;exact this.2
    have h2:=par_ev q K M L l hmb (by omega) (by omega) hLd (fun r hm=>(hall' r hm).1);obtain ⟨P,hPe,hP⟩:=bytes_nat l hb;have hPl:P.length=l.length:=by rw [hPe,List.length_map]
    have hPP: ∀r,r∈P->r.length=L/\ ∀x,x∈r->x<256:=fun r hm=>⟨by
     have:=(hall' (castN r) (by rw [hPe];exact List.mem_map_of_mem hm)).1
     rwa [b0z] at this,hP r hm⟩
    have hrowsP: ∀r,r∈parM q K M->r.length=P.length/\ ∀x,x∈r->inF (pbits q) x=true:=fun r hm=>by
     have:=hgd.1 r hm;refine ⟨by rw [this.1];omega,fun z hz=> ?_⟩;have:=this.2 z hz;unfold inF;rw [Zd this.1,Zd this.2];rfl
    have hpv:parV L q K M l=(parM q K M).map (fun r=>castN (dotN L (pbits q) r P)):=by
     unfold parV;refine List.map_congr_left (fun r hm=> ?_);rw [hPe];exact dotV_nat (eqz q) L r P (fun r hr=>⟨(hPP r hr).2,by rw [(hPP r hr).1];exact hLd⟩)
    obtain ⟨t,b,c,he⟩:=rof_ev q p1 p2;have h3:=rpar_l q K M L P (by omega) hLd hPP (by omega) (by omega) (parM q K M) (by rw [hgd.2];omega) hrowsP t b c (parM q K M).length 0 (by omega);rw [<-hPe, <-hpv] at h3
    have hvl: ∀r,r∈parV L q K M l->r.length=L:=by
     intro r hm;unfold parV at hm;obtain ⟨c, -,rfl⟩:=List.mem_map.1 hm;exact dotV_len hLd (fun r hm=>(hall' r hm).1)
    refine ⟨parV L q K M l,0,?_,h2,?_,fun r hm=>by rw [hvl r hm];omega, .inl rfl,?_⟩
    ·refine Ev.congr (fun k=>by unfold aqz.f;rw [cUz,hmb,Zl,Ya rfl,Ya hlen]) ?_;refine Ev.bind hev ?_;rw [hall];refine Ev.step (f:=fun k=>(bwz.f k q (K:Int) (M:Int)).bind fun u=>aqz.l0 k l u.1 ([] :List (List Int)) 0 t (pbits q) (fpoly (pbits q)) b c) (fun k=> ?_) (Ev.bind (rpar_ev q K M hmb) h3);show aqz.j0 (k+1) l false q (K:Int) (M:Int)=_;rw [aqz.j0,Yb (by decide),he,Zl]
    ·rw [parV_len L q K M l hmb];omega
    ·rw [hpv];intro r hm z hz;obtain ⟨c, -,rfl⟩:=List.mem_map.1 hm;unfold castN at hz;obtain ⟨w,hw,rfl⟩:=List.mem_map.1 hz;have:=dotN_lt L (pbits q) c P w hw;omega
   ·refine ⟨[],1,hbad _ ?_ ?_⟩
    ·refine Ev.congr (fun k=>by unfold aqz.f;rw [cUz,hmb,Zl,Ya rfl,Ya hlen]) ?_;refine Ev.bind hev ?_;rw [Bool.eq_false_iff.2 hall];exact hj q (K:Int) (M:Int)
    ·obtain ⟨c, rest, hc⟩ : ∃ c rest, parM q K M = c :: rest := by
      cases e:parM q K M with
      |nil=>rw [e] at hgd;simp at hgd;omega
      |cons c rest=>exact ⟨c,rest,rfl⟩
     have hcl:=(hgd.1 c (by rw [hc];exact List.mem_cons_self ..)).1
     have hbadD:Ev (fun k=>dotB k (pbits q) c l) ([],1):=by
      by_cases he:l.all (evB (pbits q))=true
      ·have hex : ∃ r, r ∈ l /\ r.length ≠ L := by
        apply Classical.byContradiction
        intro hno;apply hall
        rw [List.all_eq_true];intro r hm;have h1:=List.all_eq_true.1 he r hm;have h2:r.length=L:=Classical.byContradiction fun h=>hno ⟨r,hm,h⟩
        unfold evenP;rw [h1,h2];simp
       obtain ⟨r,hm,hne⟩:=hex;obtain ⟨j,hj⟩:=List.getElem?_of_mem hm;exact dotB_bad (pbits q) c l L (by omega) (by omega) hr r0 r h0 hL j hj hne
      ·unfold dotB;exact Ev.congr (fun k=>by rw [Yb he]) (Ev.now _)
     refine Ev.congr (f:=fun k=>(dotB k (pbits q) c l).bind fun t=>if t.2=0 then aGz.l k (pbits q) l rest ([] ++ [t.1]) else some ([],1)) (fun k=> ?_) (Ev.bind hbadD (Ev.congr (fun k=>by rw [Yb (by decide)]) (Ev.now _)));unfold aGz.f;rw [hmb,Zl,Ya rfl,Ya hlen,Ya hsm,Zu,Zu,hc];simp only [aGz.l]
  ·refine ⟨[],1,hbad _ (Ev.congr (fun k=> ?_) (hj q (K:Int) (M:Int))) (Ev.congr (fun k=> ?_) (Ev.now _))⟩
   ·unfold aqz.f;rw [cUz,hmb,Zl,Ya rfl,Yb hlen]
   ·unfold aGz.f;rw [hmb,Zl,Ya rfl,Yb hlen]
theorem byt_inj: ∀(x y:List Int),(∀z,z∈x->0<=z/\z<=255)->(∀z,z∈y->0<=z/\z<=255)->(x.map fun n:Int=>UInt8.ofNat n.toNat)=(y.map fun n:Int=>UInt8.ofNat n.toNat)->x=y
 | [], [],_,_,_=>rfl
 | [],_::_,_,_,h=>by simp at h
 |_::_, [],_,_,h=>by simp at h
 |a::x,b::y,hx,hy,h=>by
  rw [List.map_cons,List.map_cons] at h;injection h with h1 h2
  have ha:=hx a (List.mem_cons_self ..);have hb:=hy b (List.mem_cons_self ..)
  have h3:a.toNat=b.toNat:=by
   have h4:=congrArg UInt8.toNat h1;rw [UInt8.toNat_ofNat',UInt8.toNat_ofNat',Nat.mod_eq_of_lt (by omega),Nat.mod_eq_of_lt (by omega)] at h4;exact h4
  rw [byt_inj x y (fun z hz=>hx z (List.mem_cons_of_mem _ hz)) (fun z hz=>hy z (List.mem_cons_of_mem _ hz)) h2,show a=b by omega]
theorem str_inj (x y:List Int) (hx: ∀z,z∈x->0<=z/\z<=255) (hy: ∀z,z∈y->0<=z/\z<=255) (h:(strOfNums x).toList=(strOfNums y).toList):x=y:=by
 rw [Lib.strOfNums_toList,Lib.strOfNums_toList] at h;exact byt_inj x y hx hy h
theorem rsame_l (p q : List (List Int)) (n : Nat) (hp : p.length = n) (hq : q.length = n) (hn : n <= 1000000) (hpb : ∀ r, r ∈ p -> ∀ z, z ∈ r -> 0 <= z /\ z <= 255) (hqb : ∀ r, r ∈ q -> ∀ z, z ∈ r -> 0 <= z /\ z <= 255) :
  ∀(m i:Nat),i+m=n->Ev (fun k=>a7z.l0 k p q (i:Int)) (decide (p.drop i=q.drop i)):=by
 intro m
 induction m with
 |zero=>
  intro i hi;refine Ev.step (f:=fun _=>some true) (fun k=> ?_) ?_
  ·rw [a7z.l0,Yb (by omega)]
  ·rw [List.drop_of_length_le (by omega),List.drop_of_length_le (by omega)];exact Ev.now _
 |succ m ih=>
  intro i hi;have hip:i<p.length:=by omega
  have hiq:i<q.length:=by omega
  have e1:p.getD (i:Int).toNat [] =p[i] :=by rw [Zu,Zm,Zf hip];rfl
  have e2:q.getD (i:Int).toNat [] =q[i] :=by rw [Zu,Zm,Zf hiq];rfl
  have d1:=List.drop_eq_getElem_cons hip;have d2:=List.drop_eq_getElem_cons hiq;by_cases h:p[i] =q[i]
  ·refine Ev.step (f:=fun k=>a7z.l0 k p q ((i+1:Nat):Int)) (fun k=> ?_) ?_
   ·rw [a7z.l0,Ya (by omega),Ya (by omega),Ya (by omega),e1,e2,Ya (by rw [h]),dOz (by omega)]
   ·have:=ih (i+1) (by omega);rw [d1,d2];rw [show decide (p[i] ::p.drop (i+1)=q[i] ::q.drop (i+1))=decide (p.drop (i+1)=q.drop (i+1)) by rw [h];simp only [List.cons.injEq,true_and]];exact this
  ·refine Ev.step (f:=fun _=>some false) (fun k=> ?_) ?_
   ·rw [a7z.l0,Ya (by omega),Ya (by omega),Ya (by omega),e1,e2,Yb (fun e=>h (str_inj _ _ (hpb _ (List.getElem_mem _)) (hqb _ (List.getElem_mem _)) e))]
   ·rw [d1,d2,Ze (by intro hh;injection hh with h1 _;exact h h1)];exact Ev.now _
theorem rsame_dec (p q:List (List Int)) (hn:p.length<=1000000) (hpb: ∀r,r∈p-> ∀z,z∈r->0<=z/\z<=255) (hqb: ∀r,r∈q-> ∀z,z∈r->0<=z/\z<=255):Ev (fun k=>a7z.f k p q) (decide (p=q)):=by
 by_cases hl:p.length=q.length
 ·have h:=rsame_l p q p.length rfl hl.symm hn hpb hqb p.length 0 (by omega);refine Ev.congr (fun k=> ?_) (by simpa using h);unfold a7z.f;rw [Ya (by omega)]
 ·refine Ev.congr (f:=fun _=>some false) (fun k=> ?_) ?_
  ·unfold a7z.f;rw [Yb (by omega)]
  ·rw [Ze (by rintro rfl;exact hl rfl)];exact Ev.now _
theorem rver11 (q x y : Int) (l : List (List Int)) (hl : l.length <= 1000) (hr : ∀ r, r ∈ l -> r.length <= 1000000) (hb : ∀ r, r ∈ l -> ∀ z, z ∈ r -> 0 <= z /\ z <= 255) :
  ∃b,Ev (fun k=>avz.f k q x y l) b/\Ev (fun k=>buz.f k q x y l) b:=by
 obtain ⟨mb,hmb⟩:=dXz q x y;have hj: ∀(a b c:Int),Ev (fun k=>avz.j0 k l true a b c) false:=fun a b c=>Ev.step (f:=fun _=>some false) (fun k=>by rw [avz.j0,Ya rfl]) (Ev.now _)
 cases mb with
 |false=>
  refine ⟨false,Ev.congr (fun k=> ?_) (hj q x y),Ev.congr (fun k=> ?_) (Ev.now _)⟩
  ·unfold avz.f;rw [cUz,hmb,Zl,Yb (by decide)]
  ·unfold buz.f;rw [hmb,Zl,Yb (by decide)]
 |true=>
  obtain ⟨p1,p2,k1,k2,m1,m2⟩:=cDz hmb;have hw:wrap64 (x+y)=x+y:=w64 (by omega) (by omega);by_cases hlen:(l.length:Int)=x+y
  ·obtain ⟨p,e,h1,h2,h3,h4,h5,h6⟩:=rpar11 q x y (l.take x.toNat) (by rw [List.length_take];omega) (fun r hm=>hr r (List.mem_of_mem_take hm)) (fun r hm=>hb r (List.mem_of_mem_take hm));have hs1:=rsame_dec p (l.drop x.toNat) (by omega) h6 (fun r hm=>hb r (List.mem_of_mem_drop hm));have hs2:=eqFunc_dec p (l.drop x.toNat) (by omega) (fun r hm=>by have:=h4 r hm;omega)
   have href: ∀b,(e=0->Ev (fun k=>a7z.f k p (l.drop x.toNat)) b)->(e≠0->b=false)->Ev (fun k=>avz.f k q x y l) b:=by
    intro b hb1 hb2;refine Ev.congr (fun k=>by unfold avz.f;rw [cUz,hmb,Zl,Ya rfl,hw,show ((l.length:Int) !=x+y)=false by rw [hlen];exact bne_self_eq_false _]) ?_;refine Ev.step (f:=fun k=>(aqz.f k q x y (l.take x.toNat)).bind fun t=>if t.2=0 then (a7z.f k t.1 (l.drop x.toNat)).bind fun u=>some u else some false) (fun k=>by rw [avz.j0,Yb (by decide),Ya (by omega),Ya (by omega)]) (Ev.bind h1 ?_);by_cases he:e=0
    ·exact Ev.congr (fun k=>by dsimp only;rw [Ya he]) (Ev.bind (hb1 he) (Ev.now b))
    ·rw [hb2 he];exact Ev.congr (fun k=>by dsimp only;rw [Yb he]) (Ev.now false)
   have hcod: ∀b,(e=0->Ev (fun k=>eqFunc k p (l.drop x.toNat)) b)->(e≠0->b=false)->Ev (fun k=>buz.f k q x y l) b:=by
    intro b hb1 hb2;refine Ev.congr (fun k=>by unfold buz.f;rw [hmb,Zl,Ya rfl,Ya hlen]) (Ev.bind h2 ?_);by_cases he:e=0
    ·exact Ev.congr (fun k=>by dsimp only;rw [Ya he]) (hb1 he)
    ·rw [hb2 he];exact Ev.congr (fun k=>by dsimp only;rw [Yb he]) (Ev.now false)
   by_cases he:e=0
   ·exact ⟨_,href _ (fun _=>hs1) (fun h=>Yf he h),hcod _ (fun _=>hs2) (fun h=>Yf he h)⟩
   ·exact ⟨false,href _ (fun h=>Yf h he) (fun _=>rfl),hcod _ (fun h=>Yf h he) (fun _=>rfl)⟩
  ·refine ⟨false,Ev.congr (fun k=> ?_) (hj q x y),Ev.congr (fun k=> ?_) (Ev.now _)⟩
   ·unfold avz.f;rw [cUz,hmb,Zl,Ya rfl,hw,show ((l.length:Int) !=x+y)=true from bne_iff_ne.2 hlen]
   ·unfold buz.f;rw [hmb,Zl,Ya rfl,Yb hlen]
theorem runit_ev (q:Int) (h1:1<=q) (h2:q<=6):Ev (fun k=>bYz.f k q) (unitN q:Int):=by
 have hmay:aCz.f q ((1:Nat):Int) ((1:Nat):Int)=some true:=by
  rcases six h1 h2 with rfl|rfl|rfl|rfl|rfl|rfl<;>rfl
 have hs:=rsize_ev q 1 1 0 hmay (by omega);refine Ev.bind hs ?_;rcases six h1 h2 with rfl|rfl|rfl|rfl|rfl|rfl<;>exact Ev.congr (fun k=>rfl) (Ev.now _)
theorem trial_q (l : List (List Int)) (a : Int) (hl : l.length <= 12) (hr : ∀ r, r ∈ l -> r.length <= 300) (hb : ∀ r, r ∈ l -> ∀ z, z ∈ r -> 0 <= z /\ z <= 255) (q : Int) (h1 : 1 <= q) (h2 : q <= 6) :
  ∃b:Bool,Ev (fun k=>blz.f k l a q) b/\ ∀(acc:List Int) (r:List Int),acc.length<=100->Ev (fun k=>amz.l0 k l a (if b=true then acc++ [q] else acc) (q+1)) r->Ev (fun k=>amz.l0 k l a acc q) r:=by
 have hw1:wrap64 (q+1)=q+1:=w64 (by omega) (by omega);obtain ⟨m,hm⟩: ∃m,wrap64 ((l.length:Int) - a)=m:=⟨_,rfl⟩;obtain ⟨mb,hmb⟩:=dXz q a m
 cases mb with
 |false=>
  refine ⟨false,Ev.congr (fun k=> ?_) (Ev.now _),fun acc r hacc h=> ?_⟩
  ·unfold blz.f bEz.f;rw [Zl,hm];dsimp only;rw [hmb,Zl,Yb (by decide)]
  ·refine Ev.step (fun k=> ?_) h;rw [amz.l0,Ya h2,hm,cUz,hmb,Zl,Yb (by decide),hw1,Yb (by decide)]
 |true=>
  obtain ⟨p1,p2,k1,k2,m1,m2⟩:=cDz hmb
  have hlen:(l.length:Int)=a+m:=by
   unfold wrap64 at hm;omega
  obtain ⟨S,hS⟩: ∃S,(rd_L1 l 0).length=S:=⟨_,rfl⟩;have hlong:=long_ev S q a h1 h2 l (by omega) hS;have hunit:=runit_ev q h1 h2;have hu:=euz q;obtain ⟨v,v1,v2⟩:=rver11 q a m l (by omega) (fun r hm=>by have:=hr r hm;omega) hb;by_cases hlg:longB S q=true
  ·have hlg' : 0 < S /\ S % unitN q = 0 := by
    unfold longB at hlg
    simpa using hlg
   refine ⟨v,?_,fun acc r hacc h=> ?_⟩
   ·refine Ev.congr (f:=fun k=>(bHz.f k l a q).bind fun t=>if t=true then (buz.f k q a m l).bind fun u=>some u else some false) (fun k=> ?_) (Ev.bind hlong ?_)
    ·unfold blz.f bEz.f;rw [Zl,hm];dsimp only;rw [hmb,Zl,Ya rfl]
    ·rw [hlg];exact Ev.congr (fun k=>by rw [Ya rfl]) (Ev.bind v2 (Ev.now v))
   ·refine Ev.step (f:=fun k=>(bYz.f k q).bind fun u=>if u=0 then none else if (((rd_L1 l 0).length:Int) % u)=0 then (avz.f k q a m l).bind fun t=>if t=true then (if acc.length<17592186044416 then amz.l0 k l a (acc++ [q]) (q+1) else none) else amz.l0 k l a acc (q+1) else amz.l0 k l a acc (q+1)) (fun k=> ?_) (Ev.bind hunit ?_)
    ·rw [amz.l0,Ya h2,hm,cUz,hmb,Zl,Ya rfl,Ya (by omega),Ya (by omega),hw1]
    ·refine Ev.congr (fun k=>by rw [Yb (by omega),Ya (by rw [hS];omega)]) (Ev.bind v1 ?_)
     cases v with
     |true=>exact Ev.congr (fun k=>by rw [Ya rfl,Ya (by omega)]) (by rw [Ya rfl] at h;exact h)
     |false=>exact Ev.congr (fun k=>by rw [Yb (by decide)]) (by rw [Yb (by decide)] at h;exact h)
  ·refine ⟨false,?_,fun acc r hacc h=> ?_⟩
   ·refine Ev.congr (f:=fun k=>(bHz.f k l a q).bind fun t=>if t=true then (buz.f k q a m l).bind fun u=>some u else some false) (fun k=> ?_) (Ev.bind hlong ?_)
    ·unfold blz.f bEz.f;rw [Zl,hm];dsimp only;rw [hmb,Zl,Ya rfl]
    ·exact Ev.congr (fun k=>by rw [Yb hlg]) (Ev.now false)
   ·rw [Yb (by decide)] at h;by_cases h0:0<S
    ·have hne: ¬S % unitN q=0:=fun e=>hlg (by unfold longB;simp [h0,e])
     refine Ev.step (f:=fun k=>(bYz.f k q).bind fun u=>if u=0 then none else if (((rd_L1 l 0).length:Int) % u)=0 then (avz.f k q a m l).bind fun t=>if t=true then (if acc.length<17592186044416 then amz.l0 k l a (acc++ [q]) (q+1) else none) else amz.l0 k l a acc (q+1) else amz.l0 k l a acc (q+1)) (fun k=> ?_) (Ev.bind hunit ?_)
     ·rw [amz.l0,Ya h2,hm,cUz,hmb,Zl,Ya rfl,Ya (by omega),Ya (by omega),hw1]
     ·exact Ev.congr (fun k=>by rw [Yb (by omega),Yb (by rw [hS];omega)]) h
    ·refine Ev.step (fun k=> ?_) h;rw [amz.l0,Ya h2,hm,cUz,hmb,Zl,Ya rfl,Ya (by omega),Yb (by omega),hw1]
theorem trial16_ev (l : List (List Int)) (a : Int) (hl : l.length <= 12) (hr : ∀ r, r ∈ l -> r.length <= 300) (hb : ∀ r, r ∈ l -> ∀ z, z ∈ r -> 0 <= z /\ z <= 255) :
  ∃t:List Int,t.length<=6/\Ev (fun k=>bgz.f k l a) t/\Ev (fun k=>amz.f k l a) t:=by
 have key:=trial_q l a hl hr hb;obtain ⟨b1,e1,s1⟩:=key 1 (by decide) (by decide);obtain ⟨b2,e2,s2⟩:=key 2 (by decide) (by decide);obtain ⟨b3,e3,s3⟩:=key 3 (by decide) (by decide);obtain ⟨b4,e4,s4⟩:=key 4 (by decide) (by decide);obtain ⟨b5,e5,s5⟩:=key 5 (by decide) (by decide);obtain ⟨b6,e6,s6⟩:=key 6 (by decide) (by decide);clear key
 have htr:=trial_ev l a (fun q=>if q=1 then b1 else if q=2 then b2 else if q=3 then b3 else if q=4 then b4 else if q=5 then b5 else b6) (fun q h1 h2=>by
  rcases six h1 h2 with rfl|rfl|rfl|rfl|rfl|rfl
  ·exact e1
  ·exact e2
  ·exact e3
  ·exact e4
  ·exact e5
  ·exact e6)
 have hend: ∀acc:List Int,Ev (fun k=>amz.l0 k l a acc (6+1)) acc:=fun acc=>Ev.step (f:=fun _=>some acc) (fun k=>by rw [amz.l0,Yb (by decide)]) (Ev.now acc)
 refine ⟨_,?_,htr,?_⟩
 ·exact Zt (List.length_filter_le _ _) (by decide)
 ·show Ev (fun k=>amz.l0 k l a [] 1) _
  have hall : ∀ (x1 x2 x3 x4 x5 x6 : List Int), x1 = (if b1 = true then [] ++ [1] else []) -> x2 = (if b2 = true then x1 ++ [2] else x1) -> x3 = (if b3 = true then x2 ++ [3] else x2) -> x4 = (if b4 = true then x3 ++ [4] else x3) -> x5 = (if b5 = true then x4 ++ [5] else x4) -> x6 = (if b6 = true then x5 ++ [6] else x5) ->
    x1.length<=100/\x2.length<=100/\x3.length<=100/\x4.length<=100/\x5.length<=100/\x6=all6.filter (fun q=>if q=1 then b1 else if q=2 then b2 else if q=3 then b3 else if q=4 then b4 else if q=5 then b5 else b6):=by
   rintro x1 x2 x3 x4 x5 x6 rfl rfl rfl rfl rfl rfl;revert b1 b2 b3 b4 b5 b6;intro b1 _ _ b2 _ _ b3 _ _ b4 _ _ b5 _ _ b6 _ _ _;cases b1<;>cases b2<;>cases b3<;>cases b4<;>cases b5<;>cases b6<;>decide
  obtain ⟨n1,n2,n3,n4,n5,n6⟩:=hall _ _ _ _ _ _ rfl rfl rfl rfl rfl rfl;rw [<-n6];exact s1 _ _ (by decide) (s2 _ _ n1 (s3 _ _ n2 (s4 _ _ n3 (s5 _ _ n4 (s6 _ _ n5 (hend _))))))
theorem rpick_ev (l:List (List Int)) (a:Int) (t:List Int) (h1:Ev (fun k=>bgz.f k l a) t) (h2:Ev (fun k=>amz.f k l a) t): ∃r:Int×Int,Ev (fun k=>cGz.f k l a) r/\Ev (fun k=>cyz.f k l a) r:=by
 by_cases h0:(t.length:Int)=0
 ·exact ⟨(0,4),Ev.bind h1 (Ev.congr (fun k=>by rw [Ya h0]) (Ev.now _)),Ev.bind h2 (Ev.congr (fun k=>by rw [Ya h0]) (Ev.now _))⟩
 ·by_cases h3:(t.length:Int)=1
  ·exact ⟨(rd t 0,0),Ev.bind h1 (Ev.congr (fun k=>by rw [Yb h0,Ya h3,Ya (by omega)]) (Ev.now _)),Ev.bind h2 (Ev.congr (fun k=>by rw [Yb h0,Yb (by omega),Ya (by omega)]) (Ev.now _))⟩
  ·exact ⟨(0,6),Ev.bind h1 (Ev.congr (fun k=>by rw [Yb h0,Yb h3]) (Ev.now _)),Ev.bind h2 (Ev.congr (fun k=>by rw [Yb h0,Ya (by omega)]) (Ev.now _))⟩
theorem rints_ev (t:List Int) (ht:t.length<=1000):Ev (fun k=>btz.f k t t) true:=by
 have key: ∀(m i:Nat),i+m=t.length->Ev (fun k=>btz.l0 k t t (i:Int)) true:=by
  intro m
  induction m with
  |zero=>
   intro i hi;refine Ev.step (f:=fun _=>some true) (fun k=> ?_) (Ev.now _);rw [btz.l0,Yb (by omega)]
  |succ m ih=>
   intro i hi;refine Ev.step (fun k=> ?_) (ih (i+1) (by omega));rw [btz.l0,Ya (by omega),Ya (by omega),Ya (by omega),Ya rfl,w64 (by omega) (by omega),show ((i:Int)+1)=((i+1:Nat):Int) by omega]
 refine Ev.congr (fun k=> ?_) (key t.length 0 (by omega));unfold btz.f;rw [Ya rfl];rfl
theorem fewb_loop (l:List (List Int)): ∀(m i:Nat),i+m=l.length->(∀r,r∈l.take i->r.length<=300)->i<=13-> ∃b,Ev (fun k=>aHz.l0 k l (i:Int)) b/\(b=true->(∀r,r∈l->r.length<=300)/\l.length<=12):=by
 intro m
 induction m with
 |zero=>
  intro i hi h _;refine ⟨decide ((l.length:Int)<=12),?_,fun hb=> ?_⟩
  ·have he : Ev (fun k => aHz.j1 k l (i : Int) false) (decide ((l.length : Int) <= 12)) := by
    refine Ev.step (f:=fun _=>some (decide ((l.length:Int)<=12))) (fun k=> ?_) (Ev.now _);rw [aHz.j1,Yb (by decide)]
   refine Ev.step (fun k=> ?_) he;rw [aHz.l0,Yb (by omega)]
  ·rw [List.take_of_length_le (by omega)] at h;have:=Zc hb;exact ⟨h,by omega⟩
 |succ m ih=>
  intro i hi h h13;by_cases hlt:i<13
  ·obtain ⟨r,hr⟩: ∃r,l[i]?=some r:=⟨_,Zf (by omega)⟩;have hrd:rd_L1 l (i:Int)=r:=by unfold rd_L1;rw [Zu,Zm,hr];rfl
   by_cases hlen:r.length<=300
   ·obtain ⟨b, hE, hb⟩ := ih (i + 1) (by omega) (fun q hq => by
     rw [List.take_add_one,hr] at hq;rcases List.mem_append.1 hq with hq|hq
     ·exact h q hq
     ·obtain rfl:q=r:=by simpa using hq
      exact hlen) (by omega)
    refine ⟨b,?_,hb⟩
    have he:Ev (fun k=>aHz.j1 k l (i:Int) true) b:=by
     refine Ev.step (fun k=> ?_) hE;rw [aHz.j1,Ya rfl,Ya (by omega),Ya (by omega),hrd,Yb (by omega),dOz (by omega)]
    refine Ev.step (fun k=> ?_) he;rw [aHz.l0,Ya (by omega),Zd (by omega)]
   ·refine ⟨false,?_,fun hb=>by cases hb⟩
    have he:Ev (fun k=>aHz.j1 k l (i:Int) true) false:=by
     refine Ev.step (f:=fun _=>some false) (fun k=> ?_) (Ev.now _);rw [aHz.j1,Ya rfl,Ya (by omega),Ya (by omega),hrd,Ya (by omega)]
    refine Ev.step (fun k=> ?_) he;rw [aHz.l0,Ya (by omega),Zd (by omega)]
  ·refine ⟨decide ((l.length:Int)<=12),?_,fun hb=>by have:=Zc hb;omega⟩
   have he:Ev (fun k=>aHz.j1 k l (i:Int) false) (decide ((l.length:Int)<=12)):=by
    refine Ev.step (f:=fun _=>some (decide ((l.length:Int)<=12))) (fun k=> ?_) (Ev.now _);rw [aHz.j1,Yb (by decide)]
   refine Ev.step (fun k=> ?_) he;rw [aHz.l0,Ya (by omega),Ze (by omega)]
theorem fewb_ev (l:List (List Int)): ∃b,Ev (fun n=>aHz.f n l) b/\(b=true->(∀r,r∈l->r.length<=300)/\l.length<=12):=by
 obtain ⟨b,h1,h2⟩:=fewb_loop l l.length 0 (by omega) (by simp) (by omega);exact ⟨b,Ev.congr (fun n=>rfl) h1,h2⟩
theorem u8_wf {x:Int} (h:(Lit.int .u8 x).wf=true):0<=x/\x<=255:=by
 simp [Lit.wf,IntKind.has] at h;have h1:IntKind.min .u8=0:=rfl;have h2:IntKind.max .u8=255:=rfl;omega
end Go.Proofs.Xc
end
section
namespace Go.Proofs.YtpdakdcmahlghaaGreat.RowKit
open Go Go.ChangeShapes Go.Proofs.Pw Go.Proofs.Xc
theorem nil_reads {α:Type} (d:Kd α) (w:World):d.C w none 0 [] :=⟨rfl,by simp,fun h=>Yf h (by simp)⟩
theorem open_rows {H : Type} {enc : TypeId × Value -> H} {P : Program} {w : World} {t e eb : TypeId} {k : IntKind} {fuel : Nat} {cs : List Value} {x : DataW H × List MemPlace} (ht : P.underlying t = some (.slice e)) (he : P.underlying e = some (.slice eb)) (hb : P.underlying eb = some (.int k)) (hce : P.cellsOf e = 1) (hcb : P.cellsOf eb = 1)
  (h:DataW.trod enc P w 0 (fun _=>true) true fuel t cs=some x):
  ∃(A:Option Addr) (cap:Nat) (rows:List (List Int)),cs= [.slice A rows.length cap] /\rows.length<=cap/\rows.length<=maxLen/\Kd.C (Kd.slice eb (Kd.int k)) w A rows.length rows/\ ∀r,r∈rows->r.length<=maxLen/\ ∀x∈r,(Lit.int k x).wf=true:=by
 rcases DataW.trod_slice ht h with ⟨rfl, -⟩|⟨a,len,cap,elems,rest,n,rfl,rfl,rfl, -,hl,hm,hlen,hel, -, -⟩
 ·exact ⟨none,0, [],rfl,Zv _,Nat.zero_le _,nil_reads _ _,fun r hr=>by simp at hr⟩
 have each: ∀i,i<len-> ∃r:List Int,(∃A c,w.cell? (a.add i)=some (.slice A r.length c)/\r.length<=c/\Kd.C (Kd.int k) w A r.length r)/\r.length<=maxLen/\ ∀x∈r,(Lit.int k x).wf=true:=by
  intro i hi;have h1:=hel i hi;rw [hce,Nat.mul_one,Zf (by omega),Option.bind_eq_some_iff] at h1;obtain ⟨cs',hcs,hy⟩:=h1;rcases open_ints he hb hcb hy with ⟨rfl, -⟩|⟨a',l',c',zs,rfl, -,hl',hm',hz, -,hcell,hwz⟩
  ·exact ⟨[],⟨none,0,cell_of_cells?_one hcs,Zv _,nil_reads _ _⟩,Nat.zero_le _,fun x hx=>by simp at hx⟩
  ·obtain ⟨r,rfl,h1,h2,h3,h4⟩:=ReadsInt.ofRowC (k:=k) (w:=w) (a:=some a') (len:=l') (cap:=c') (zs:=zs) (.inr ⟨a',rfl,hl',hm',by simpa using hz,hcell,hwz⟩);exact ⟨r,⟨some a',c',cell_of_cells?_one hcs,h4,Kd.C_of_reads (d:=(0:Int)) (h1:=fun _=>rfl) h1⟩,h2,h3⟩
 have all: ∀m,m<=len-> ∃rows:List (List Int),rows.length=m/\ ∀(i:Nat) (r:List Int),rows[i]?=some r->(∃A c,w.cell? (a.add i)=some (.slice A r.length c)/\r.length<=c/\Kd.C (Kd.int k) w A r.length r)/\r.length<=maxLen/\ ∀x∈r,(Lit.int k x).wf=true:=by
  intro m
  induction m with
  |zero=>exact fun _=>⟨[],rfl,fun i r hr=>by simp at hr⟩
  |succ m ih=>
   intro hm;obtain ⟨rows,e1,e2⟩:=ih (by omega);obtain ⟨r,hr⟩:=each m (by omega);refine ⟨rows++ [r],by simp [e1],fun i q hq=> ?_⟩;by_cases hi:i<rows.length
   ·rw [List.getElem?_append_left hi] at hq;exact e2 i q hq
   ·have hlt:=(Zk hq).1;obtain rfl:i=m:=by simp at hlt;omega
    rw [List.getElem?_append_right (by omega),e1,Nat.sub_self] at hq;obtain rfl:r=q:=by simpa using hq
    exact hr
 obtain ⟨rows,rfl,hrows⟩:=all len (Zv _);refine ⟨some a,cap,rows,rfl,hl,Zt hl hm,⟨rfl,Zt (Zt hl hm) (by decide),fun _=>⟨a,rfl,fun j p hj=> ?_⟩⟩,fun r hr=> ?_⟩
 ·obtain ⟨⟨A,c,h1,h2,h3⟩, -, -⟩:=hrows j p hj;refine ⟨[.slice A p.length c],rfl,⟨A,c,rfl,h2,h3⟩,fun i u hu=> ?_⟩
  cases i with
  |zero=>
   obtain rfl:Value.slice A p.length c=u:=by simpa using hu
   show w.cell? (a.add (j*1+0))=_;rw [Nat.mul_one];exact h1
  |succ i=>simp at hu
 ·obtain ⟨j,hj⟩:=List.getElem?_of_mem hr;exact (hrows j r hj).2
end Go.Proofs.YtpdakdcmahlghaaGreat.RowKit
end
