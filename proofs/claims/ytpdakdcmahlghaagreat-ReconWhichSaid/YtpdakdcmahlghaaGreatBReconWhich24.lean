-- Joined texts of this work (wip/tools/bundle.py).
import Derived.Test.YtpdakdcmahlghaaGreatBReconWhich23
section
namespace Go.Proofs.Xc
open Go.RowKit Go.Proofs.Pw Go.Proofs.Pl Go.Proofs.Pm Tryz
attribute [local go_sem] a7z a8z bgz bhz aVz aWz a9z baz
set_option linter.unusedVariables false
set_option linter.unusedSimpArgs false
theorem rlay_ev (q:Int) (h1:1<=q) (h2:q<=6) (x y:Int): ∃c:Int,btz.f q x y=some c/\b7z.f c=some (unitN q:Int)/\(q=5->c=98)/\(q≠5->c≠98):=by
 have hq:q=1\/q=2\/q=3\/q=4\/q=5\/q=6:=by omega
 rcases hq with rfl|rfl|rfl|rfl|rfl|rfl<;>exact ⟨_,rfl,rfl,by decide,by decide⟩
theorem rsize_l (q:Int) (h1:1<=q) (h2:q<=6) (K n t:Nat) (y:Int) (hK:1<=K) (b0:K<=8) (hn:n<=5000) (ht:t=max ((n+unitN q*K - 1) / (unitN q*K)) 1):
  ∀(m j:Nat),j+m=t->1<=j->Ev (fun k=>aDz.l0 k (n:Int) ((unitN q*j:Nat):Int) q (K:Int) y) (((unitN q*t:Nat):Int),0):=by
 obtain ⟨c,e1,e2, -⟩:=rlay_ev q h1 h2 (K:Int) y;have hu:=eDz q;obtain ⟨D,hD⟩: ∃D,unitN q*K=D:=⟨_,rfl⟩;have a0:1<=D:=by rw [<-hD];exact Nat.mul_pos hu.1 hK
 rw [hD] at ht
 have f0:(n+D - 1) / D<=n:=by
  rcases Nat.eq_zero_or_pos n with rfl|hp
  ·rw [Nat.div_eq_of_lt (by omega)];exact Zv _
  ·refine (Nat.div_le_iff_le_mul_add_pred a0).2 ?_;have:n<=D*n:=Nat.le_mul_of_pos_left n a0;omega
 have d0:t<=5001:=by omega
 intro m
 induction m with
 |zero=>
  intro j hj _;obtain rfl:j=t:=by omega
  have hge:n<=j*D:=by
   have a1:=Nat.div_add_mod (n+D - 1) D;have a2:=Nat.mod_lt (n+D - 1) (show 0<D from a0);have a3:D*((n+D - 1) / D)<=D*j:=Nat.mul_le_mul_left _ (by omega);rw [Nat.mul_comm j D];omega
  have hb:unitN q*j<=16*5001:=Nat.mul_le_mul hu.2 d0;have c0:unitN q*j*K<=16*5001*8:=Nat.mul_le_mul hb b0;have e3:unitN q*j*K=j*D:=by rw [<-hD,Nat.mul_right_comm,Nat.mul_comm]
  refine Ev.step (f:=fun _=>some (((unitN q*j:Nat):Int),0)) (fun k=> ?_) (Ev.now _);rw [aDz.l0, <-Int.natCast_mul,w64 (by omega) (by omega),e3,Yb (by omega)]
 |succ m ih=>
  intro j hj e0
  have hlt:j*D<n:=by
   have h3:j<(n+D - 1) / D:=by omega
   have h4:=(Nat.le_div_iff_mul_le a0).1 (show j+1<=(n+D - 1) / D from h3);rw [Nat.add_mul,Nat.one_mul] at h4;omega
  have hb:unitN q*j<=16*5001:=Nat.mul_le_mul hu.2 (by omega);have c0:unitN q*j*K<=16*5001*8:=Nat.mul_le_mul hb b0;have e3:unitN q*j*K=j*D:=by rw [<-hD,Nat.mul_right_comm,Nat.mul_comm]
  refine Ev.step (fun k=> ?_) (ih (j+1) (by omega) (by omega));rw [aDz.l0, <-Int.natCast_mul,w64 (x:=((unitN q*j*K:Nat):Int)) (by omega) (by omega),e3,Ya (by omega),e1,Zl,e2,Zl,w64 (by omega) (by omega),show ((unitN q*j:Nat):Int)+(unitN q:Int)=((unitN q*(j+1):Nat):Int) by rw [Nat.mul_add,Nat.mul_one];omega]
theorem rsize_ev (q:Int) (K M n:Nat) (a0:avz.f q (K:Int) (M:Int)=some true) (hn:n<=4096):Ev (fun k=>aDz.f k q (K:Int) (M:Int) (n:Int)) ((sizeN q K n:Int),0):=by
 obtain ⟨p1,p2,k1,k2,m1,m2⟩:=bZz a0;obtain ⟨c,e1,e2,e3,e4⟩:=rlay_ev q p1 p2 (K:Int) (M:Int);have ha:=ejz q;have h1:=rsize_l q p1 p2 K (n+aheadN q) _ (M:Int) (by omega) (by omega) (by omega) rfl (max ((n+aheadN q+unitN q*K - 1) / (unitN q*K)) 1 - 1) 1 (by omega) (Zv _);rw [Nat.mul_one] at h1
 have h2:Ev (fun k=>aDz.j1 k ((n+aheadN q:Nat):Int) q (K:Int) (M:Int)) ((sizeN q K n:Int),0):=by
  refine Ev.step (fun k=> ?_) h1;rw [aDz.j1,e1,Zl,e2,Zl]
 refine Ev.congr (fun k=>by unfold aDz.f;rw [evz,a0,Zl,Ya rfl,show decide ((n:Int)<0)=false by simp]) ?_;refine Ev.step (fun k=> ?_) h2;rw [aDz.j0,Yb (by decide),Yb (by omega),e1,Zl];by_cases h5:q=5
 ·rw [Ya (e3 h5),w64 (by omega) (by omega),show aheadN q=4 by unfold aheadN;rw [Ya h5]];rfl
 ·rw [Yb (e4 h5),show aheadN q=0 by unfold aheadN;rw [Yb h5]];rfl
theorem rlaid_ev (q:Int) (h1:1<=q) (h2:q<=6) (x y:Int) (b:List Int) (hn:b.length<=4096):cmz.f q x y b=some (laidL (aheadN q) b):=by
 obtain ⟨c,e1, -,e3,e4⟩:=rlay_ev q h1 h2 x y;unfold cmz.f;rw [e1,Zl];by_cases h5:q=5
 ·rw [Ya (e3 h5),Zl,Ya (by simp),Zl,Ya (by simp;omega),show aheadN q=4 by unfold aheadN;rw [Ya h5]];unfold laidL four4;rw [Nat.sub_self,List.drop_zero,List.nil_append];rw [w64 (x:=(b.length:Int) / 16777216) (by omega) (by omega),w64 (x:=(b.length:Int) / 65536) (by omega) (by omega),w64 (x:=(b.length:Int) / 256) (by omega) (by omega),Int.tmod_eq_emod_of_nonneg (by omega),Int.tmod_eq_emod_of_nonneg (by omega),Int.tmod_eq_emod_of_nonneg (by omega)];rw [show (b.length:Int) / 16777216 % 256 % 256=(b.length:Int) / 256 / 256 / 256 % 256 by omega,show (b.length:Int) / 65536 % 256 % 256=(b.length:Int) / 256 / 256 % 256 by omega,show (b.length:Int) / 256 % 256 % 256=(b.length:Int) / 256 % 256 by omega]
 ·rw [Yb (e4 h5),Ya (by simp;omega),show aheadN q=0 by unfold aheadN;rw [Yb h5]];unfold laidL four4;rfl
theorem chunk_eq (size:Nat): ∀(data:List (List Int)),(∀r,r∈data->r.length=size)->data=(List.range data.length).map fun j=>(data.flatten.drop (j*size)).take size
 | [],_=>rfl
 |r::data,h=>by
  have hr:=h r (List.mem_cons_self ..);have ih:=chunk_eq size data (fun x hx=>h x (List.mem_cons_of_mem _ hx));rw [List.length_cons,List.range_succ_eq_map,List.map_cons,List.map_map,List.flatten_cons];congr 1
  ·rw [Nat.zero_mul,List.drop_zero,List.take_append_of_le_length (by omega),List.take_of_length_le (by omega)]
  ·conv=>lhs;rw [ih]
   refine List.map_congr_left (fun j _=> ?_);show _=((r++data.flatten).drop ((j+1)*size)).take size;rw [Nat.add_mul,Nat.one_mul,Nat.add_comm, <-List.drop_drop, <-hr,List.drop_left]
theorem rsplit_in (size K:Nat) (l F:List Int) (hF:F=l++List.replicate (K*size - l.length) 0) (hl:l.length<=K*size) (hs:size<=100000) (hK:K<=8) (out:List (List Int)) (i:Nat) (hi:i<K) (q y:Int) (r:List (List Int)×Int) (ho:out.length<=1000) (hr:Ev (fun k=>aFz.l0 k (size:Int) l (out++ [(F.drop (i*size)).take size]) ((i+1:Nat):Int) q (K:Int) y) r):
  ∀(m j:Nat),j+m=size->Ev (fun k=>aFz.l1 k (size:Int) l out (i:Int) ((F.drop (i*size)).take j) (j:Int) q (K:Int) y) r:=by
 have d0:F.length=K*size:=by rw [hF,List.length_append,List.length_replicate];omega
 have his:(i+1)*size<=K*size:=Nat.mul_le_mul_right _ (by omega);have hKs:K*size<=8*100000:=Nat.mul_le_mul hK hs;rw [Nat.add_mul,Nat.one_mul] at his;have c0:(i:Int)*(size:Int)=((i*size:Nat):Int):=(Int.natCast_mul _ _).symm;generalize i*size=c at hr his c0|-;generalize K*size=T at d0 his hKs hF hl;intro m
 induction m with
 |zero=>
  intro j hj;obtain rfl:j=size:=by omega
  refine Ev.step (fun k=> ?_) hr;rw [aFz.l1,Yb (by omega),Ya (by omega),w64 (by omega) (by omega)];rfl
 |succ m ih=>
  intro j hj;have hlen:((F.drop c).take j).length=j:=by rw [List.length_take,List.length_drop];omega
  have hat:(F.drop c)[j]?=F[c+j]?:=by rw [List.getElem?_drop]
  have hjs:(j:Int)<(size:Int):=by omega
  have a0:j<140737488355328:=by omega
  have hcj:(0:Int)<=((c+j:Nat):Int):=by omega
  have hih:=ih (j+1) (by omega);rw [List.take_add_one,hat] at hih
  have hcut:(c+j<l.length/\((c+j:Nat):Int)<(l.length:Int)/\F[c+j]?=some (rd l ((c+j:Nat):Int)))\/(¬((c+j:Nat):Int)<(l.length:Int)/\F[c+j]?=some 0):=by
   by_cases hlt:c+j<l.length
   ·refine .inl ⟨hlt,by omega,?_⟩;rw [hF,List.getElem?_append_left hlt];unfold rd;rw [Zu,Zm,Zf hlt];rfl
   ·refine .inr ⟨by omega,?_⟩;rw [hF,List.getElem?_append_right (by omega),List.getElem?_replicate,Ya (by omega)]
  have b0:wrap64 ((j:Int)+1)=((j+1:Nat):Int):=by rw [w64 (by omega) (by omega)];omega
  have e0:wrap64 (wrap64 ((i:Int)*(size:Int))+(j:Int))=((c+j:Nat):Int):=by
   clear b0;rw [c0,w64 (x:=(c:Int)) (by omega) (by omega),w64 (by omega) (by omega)];omega
  rcases hcut with ⟨-,h1,hx⟩|⟨h1,hx⟩
  ·rw [hx,Option.toList_some] at hih;refine Ev.step (fun k=> ?_) hih;rw [aFz.l1,Ya hjs,e0,b0,Ya h1,Ya hcj,hlen,Ya a0]
  ·rw [hx,Option.toList_some] at hih;refine Ev.step (fun k=> ?_) hih;rw [aFz.l1,Ya hjs,e0,b0,Yb h1,hlen,Ya a0]
theorem rsplit_out (size K:Nat) (l F:List Int) (hF:F=l++List.replicate (K*size - l.length) 0) (hl:l.length<=K*size) (hs:size<=100000) (hK:K<=8) (q y:Int):
  ∀(m i:Nat),i+m=K->Ev (fun k=>aFz.l0 k (size:Int) l ((List.range i).map fun j=>(F.drop (j*size)).take size) (i:Int) q (K:Int) y) ((List.range K).map (fun j=>(F.drop (j*size)).take size),0):=by
 intro m
 induction m with
 |zero=>
  intro i hi;obtain rfl:i=K:=by omega
  refine Ev.step (f:=fun _=>some ((List.range i).map (fun j=>(F.drop (j*size)).take size),0)) (fun k=> ?_) (Ev.now _);rw [aFz.l0,Yb (by omega)]
 |succ m ih=>
  intro i hi;have hnext:=ih (i+1) (by omega);rw [List.range_succ,List.map_append,List.map_singleton] at hnext;have h1:=rsplit_in size K l F hF hl hs hK _ i (by omega) q y _ (by rw [List.length_map,List.length_range];omega) hnext size 0 (by omega);refine Ev.step (fun k=> ?_) h1;rw [aFz.l0,Ya (by omega),List.take_zero];rfl
theorem rsplit_ev (q:Int) (K M:Nat) (b:List Int) (a0:avz.f q (K:Int) (M:Int)=some true) (hn:b.length<=4096):
  ∃data,data.length=K/\(∀r,r∈data->r.length=sizeN q K b.length)/\((∀x,x∈b->0<=x/\x<=255)-> ∀r,r∈data-> ∀x,x∈r->0<=x/\x<=255)/\Ev (fun k=>b0z.f k q (K:Int) (M:Int) b) (data,0)/\Ev (fun k=>aFz.f k q (K:Int) (M:Int) b) (data,0):=by
 obtain ⟨p1,p2,k1,k2,m1,m2⟩:=bZz a0;obtain ⟨data,d1,d2,d3,d4,d5⟩:=split_ev q K M b a0 hn;have d0:=sizeN_pos q K b.length;have c0:=fhz q K b.length (by omega) (by omega) hn;have b0:=sizeN_room q K b.length (by omega);have hll:=laidL_len q b;have hsz:=rsize_ev q K M b.length a0 hn;have hla:=rlaid_ev q p1 p2 (K:Int) (M:Int) b hn
 generalize sizeN q K b.length=size at *
 have hfl:=fill_flat size (by omega) _ 0 _ _ (fun r hr=>by rw [List.eq_of_mem_replicate hr];simp) d4 (by rw [fuz,List.length_replicate,Nat.mul_comm];omega);rw [fuz,List.take_zero,List.nil_append,List.drop_replicate,Nat.zero_add] at hfl;have hch:=chunk_eq size data d2;rw [hfl,d1] at hch;have hout:=rsplit_out size K (laidL (aheadN q) b) _ rfl (by rw [hll,Nat.mul_comm];omega) (by omega) (by omega) q (M:Int) K 0 (by omega);rw [<-hch] at hout;refine ⟨data,d1,d2,d3,d5,Ev.bind hsz ?_⟩;refine Ev.congr (fun k=> ?_) hout;dsimp only;rw [Ya rfl,hla,Zl];rfl
theorem sum_bad0 (rows:List (List Int)) (L:Nat) (hL:L<=100000000) (hn:rows.length<=1000) (j:Nat) (b:List Int) (hj:rows[j]?=some b) (hb:b.length≠L):
  ∀(m i:Nat) (acc:List Int),i+m=rows.length->acc.length=L->i<=j-> ∃K,aLz.l0 K acc rows (rows.length:Int) (i:Int)=some ([],1)
 |0,i,acc,hi,_,hij=>by
  have:=(Zk hj).1;omega
 |m+1,i,acc,hi,ha,hij=>by
  obtain ⟨row,hrow⟩: ∃r,rows[i]?=some r:=⟨_,Zf (by omega)⟩;have hrd:rd_L1 rows (i:Int)=row:=by unfold rd_L1;rw [Zu,Zm,hrow];rfl
  by_cases hrl:row.length=L
  ·have hne : i ≠ j := fun e => by
    subst e;rw [hrow] at hj;obtain rfl:=Zn hj;exact hb hrl
   obtain ⟨K,hK⟩:=sum_bad0 rows L hL hn j b hj hb m (i+1) (xorB acc row) (by omega) (by rw [dkz _ _ (by omega)];exact hrl) (by omega);have h1:=sum_l1 rows (rows.length:Int) i acc row _ K (by omega) (by omega) (by omega) hK row.length 0 (by omega);refine ⟨K+row.length+1+1,?_⟩;unfold aLz.l0;rw [Ya (by omega),Ya (by omega),Ya (by omega),hrd,Ya (by omega)]
   simpa using h1
  ·refine ⟨1,?_⟩;unfold aLz.l0;rw [Ya (by omega),Ya (by omega),Ya (by omega),hrd,Yb (by omega)]
theorem sum_bad (rows:List (List Int)) (L:Nat) (hL:L<=100000000) (hn:rows.length<=1000) (a b:List Int) (h0:rows[0]?=some a) (ha:a.length=L) (j:Nat) (hj:rows[j]?=some b) (hb:b.length≠L):Ev (fun k=>aLz.f k rows) ([],1):=by
 have hl:=(Zk h0).1;have hrd:rd_L1 rows 0=a:=by unfold rd_L1;rw [show (0:Int).toNat=0 from rfl,Zm,h0];rfl
 obtain ⟨K,hK⟩:=sum_bad0 rows L hL hn j b hj hb rows.length 0 (List.replicate L 0) (by omega) (by simp) (by omega);refine Ev.of (fun k=>aLz.mono _ k) (k:=K) ?_;unfold aLz.f;rw [Ya (by omega),hrd,Ya (by omega),Ya (by omega),ha,Zu];exact hK
theorem dotB_bad (wb:Int) (c:List Int) (D:List (List Int)) (L:Nat) (hc:c.length=D.length) (hn:D.length<=1000) (hr: ∀r,r∈D->r.length<=1000000) (a b:List Int) (h0:D[0]?=some a) (ha:a.length=L) (j:Nat) (hj:D[j]?=some b) (hb:b.length≠L):Ev (fun k=>dotB k wb c D) ([],1):=by
 unfold dotB;by_cases he:D.all (evB wb)=true
 ·refine Ev.congr (fun k=>by rw [Ya he]) ?_
  have hev: ∀r,r∈D->r.length % wN wb=0:=fun r hm=>by
   have:=List.all_eq_true.1 he r hm;unfold evB at this;exact eq_of_beq this
  have hz: ∀(i:Nat) (r:List Int),D[i]?=some r-> ∃x,(List.zipWith (mulB wb) c D)[i]?=some x/\x.length=r.length:=fun i r hi=>by
   have:=(Zk hi).1;refine ⟨mulB wb (c[i]'(by omega)) r,?_,mulB_len wb _ r (hev r (Zo hi))⟩;rw [List.getElem?_zipWith,Zf (l:=c) (by omega),hi]
  obtain ⟨x,hx,hxl⟩:=hz 0 a h0;obtain ⟨y,hy,hyl⟩:=hz j b hj;have:=hr a (Zo h0);exact sum_bad _ L (by omega) (by rw [List.length_zipWith];omega) x y hx (by omega) j hy (by omega)
 ·exact Ev.congr (fun k=>by rw [Yb he]) (Ev.now _)
theorem rin_f (k:Nat) {wb:Int} (hw:wb=8\/wb=16) (a:Int):afz.f k wb a=some (inF wb a):=by
 unfold afz.f;rw [Ya hw]
theorem rmul2_f (k:Nat) {wb:Int} (hw:wb=8\/wb=16) (a b:Int):aBz.f k wb (fpoly wb) a b=some (gmul wb a b):=by
 unfold aBz.f;rw [rin_f k hw a,Zl];by_cases ha:inF wb a=true
 ·rw [Ya ha,rin_f k hw b,Zl];by_cases hb:inF wb b=true
  ·have hlt:=bIz hw a b;have e:gmul wb a b=((gmN wb a.toNat b.toNat:Nat):Int):=by unfold gmul;rw [ha,hb];rfl
   have hf:=dHz hw;rw [Ya hb];unfold inF at ha hb;simp only [Bool.and_eq_true,decide_eq_true_eq] at ha hb;have e1:a % 4294967296=a:=by omega
   have e2:b % 4294967296=b:=by omega
   rw [e1,e2]
   have hm:aIz.f k a b (fpoly wb)=some (gmul wb a b):=by
    rw [e];unfold aIz.f gmN;rcases hw with rfl|rfl
    ·rw [Ya ⟨rfl,by unfold inF;simp;omega,by unfold inF;simp;omega⟩,Ya rfl]
    ·rw [Yb (fun h=>Yf h.1 (by decide)),Ya ⟨rfl,by unfold inF;simp;omega,by unfold inF;simp;omega⟩,Yb (by decide)]
   rw [hm,Zl,w64 (by omega) (by omega)]
  ·rw [Yb hb,gmul_out (by simp [hb])]
 ·rw [Yb ha,gmul_out (by simp [ha])]
theorem bTz (n:List Nat):(castN n).length=n.length:=by unfold castN;rw [List.length_map]
theorem fnz (a b:List Nat):castN (a++b)=castN a++castN b:=by unfold castN;rw [List.map_append]
theorem ewz (n:List Nat) (i x:Nat) (h:n[i]?=some x):rd (castN n) (i:Int)=(x:Int):=by
 unfold rd castN;rw [Zu,Zm,List.getElem?_map,h];rfl
theorem rwords8_l (n:List Nat) (hb: ∀x,x∈n->x<256) (hl:n.length<=1000000): ∀(m i:Nat),i+m=n.length->Ev (fun k=>a0z.l0 k (castN n) (castN (n.take i)) 1 (i:Int)) (castN n,true):=by
 intro m
 induction m with
 |zero=>
  intro i hi;refine Ev.step (f:=fun _=>some (castN n,true)) (fun k=> ?_) (Ev.now _);rw [a0z.l0,bTz,w64 (by omega) (by omega),Yb (by omega),Yb (by decide),List.take_of_length_le (by omega)];congr 2
  simp
 |succ m ih=>
  intro i hi;obtain ⟨x,hx⟩: ∃x,n[i]?=some x:=⟨_,Zf (by omega)⟩;have a0:=hb x (Zo hx);refine Ev.step (fun k=> ?_) (ih (i+1) (by omega));rw [a0z.l0,bTz,w64 (x:=(i:Int)+1) (by omega) (by omega),Ya (by omega),Ya (by omega),Ya (by omega),Yb (by decide),bTz,Ya (by rw [List.length_take];omega),ewz n i x hx,w64 (x:=(x:Int)) (by omega) (by omega),List.take_add_one,hx,fnz,show ((i:Int)+1)=((i+1:Nat):Int) by omega];rfl
theorem rwords16_l (n:List Nat) (hb: ∀x,x∈n->x<256) (hl:n.length<=1000000) (he:n.length % 2=0): ∀(m j:Nat),2*j+2*m=n.length->Ev (fun k=>a0z.l0 k (castN n) (castN (pairN (n.take (2*j)))) 2 ((2*j:Nat):Int)) (castN (pairN n),true):=by
 intro m
 induction m with
 |zero=>
  intro j hj;refine Ev.step (f:=fun _=>some (castN (pairN n),true)) (fun k=> ?_) (Ev.now _);rw [a0z.l0,bTz,w64 (by omega) (by omega),Yb (by omega),Yb (by decide),List.take_of_length_le (by omega)];congr 2
  have:(n.length:Int) % 2=0:=by omega
  rw [this];rfl
 |succ m ih=>
  intro j hj;obtain ⟨x,hx⟩: ∃x,n[2*j]?=some x:=⟨_,Zf (by omega)⟩;obtain ⟨y,hy⟩: ∃y,n[2*j+1]?=some y:=⟨_,Zf (by omega)⟩;have a0:=hb x (Zo hx);have b0:=hb y (Zo hy)
  have e3:n.take (2*(j+1))=n.take (2*j)++ [x,y] :=by
   rw [show 2*(j+1)=2*j+1+1 by omega,List.take_add_one,List.take_add_one,hx,hy];simp
  have hpl:(pairN (n.take (2*j))).length<=1000000:=by rw [ekz,List.length_take];omega
  refine Ev.step (fun k=> ?_) (ih (j+1) (by omega));rw [a0z.l0,bTz,w64 (x:=((2*j:Nat):Int)+2) (by omega) (by omega),w64 (x:=((2*j:Nat):Int)+1) (by omega) (by omega),Ya (by omega),Ya (by omega),Ya (by omega),Ya rfl,Ya (by omega),Ya (by omega),bTz,Ya (by omega),ewz n (2*j) x hx,show (((2*j:Nat):Int)+1)=((2*j+1:Nat):Int) by omega,ewz n (2*j+1) y hy,w64 (x:=(x:Int)) (by omega) (by omega),w64 (x:=(y:Int)) (by omega) (by omega),w64 (x:=256*(y:Int)) (by omega) (by omega),w64 (x:=(x:Int)+256*(y:Int)) (by omega) (by omega),show (((2*j:Nat):Int)+2)=((2*(j+1):Nat):Int) by omega,e3,fiz x y _ (by rw [List.length_take];omega),fnz];congr 2
theorem rwords_ev {wb:Int} (hw:wb=8\/wb=16) (n:List Nat) (hb: ∀x,x∈n->x<256) (hl:n.length<=1000000) (he:n.length % wN wb=0):Ev (fun k=>a0z.f k wb (castN n)) (castN (if wb=8 then n else pairN n),true):=by
 rcases hw with rfl|rfl
 ·rw [Ya rfl];refine Ev.congr (fun k=> ?_) (rwords8_l n hb hl n.length 0 (by omega));unfold a0z.f;rw [show wrap64 (Int.tdiv 8 8)=1 by show wrap64 1=1;unfold wrap64;omega];rfl
 ·rw [Yb (by decide)];refine Ev.congr (fun k=> ?_) (rwords16_l n hb hl he (n.length / 2) 0 (by have:n.length % 2=0:=he;omega));unfold a0z.f;rw [show wrap64 (Int.tdiv 16 8)=2 by show wrap64 2=2;unfold wrap64;omega];simp [castN,pairN]
theorem rbytes8_l (n:List Nat) (hb: ∀x,x∈n->x<256) (hl:n.length<=1000000): ∀(m i:Nat),i+m=n.length->Ev (fun k=>a1z.l0 k 8 (castN n) (castN (n.take i)) (i:Int)) (castN n,true):=by
 intro m
 induction m with
 |zero=>
  intro i hi;refine Ev.step (f:=fun _=>some (castN n,true)) (fun k=> ?_) (Ev.now _);rw [a1z.l0,bTz,Yb (by omega),List.take_of_length_le (by omega)]
 |succ m ih=>
  intro i hi;obtain ⟨x,hx⟩: ∃x,n[i]?=some x:=⟨_,Zf (by omega)⟩;have a0:=hb x (Zo hx);have hin:inF 8 (x:Int)=true:=by unfold inF;rw [show fsize 8=256 from rfl];simp;omega
  refine Ev.step (fun k=> ?_) (ih (i+1) (by omega));rw [a1z.l0,bTz,Ya (by omega),Ya (by omega),ewz n i x hx,rin_f k (.inl rfl),Zl,Ya hin,bTz,Ya (by rw [List.length_take];omega),Zl,Yb (by decide),w64 (by omega) (by omega),List.take_add_one,hx,fnz,show ((i:Int)+1)=((i+1:Nat):Int) by omega,Int.tmod_eq_emod_of_nonneg (by omega),show ((x:Int) % 256 % 256)=(x:Int) by omega];rfl
theorem flatN_snoc (x:Nat): ∀l:List Nat,flatN (l++ [x])=flatN l++flatN [x]
 | [] =>rfl
 |y::l=>by
  have:=flatN_snoc x l;simp only [List.cons_append,flatN] at this|-;rw [this]
theorem flatN_len: ∀l:List Nat,(flatN l).length=2*l.length
 | [] =>rfl
 |y::l=>by
  have:=flatN_len l;simp only [flatN,List.length_cons] at this|-;omega
theorem rbytes16_l (n:List Nat) (hb: ∀x,x∈n->x<65536) (hl:n.length<=1000000): ∀(m i:Nat),i+m=n.length->Ev (fun k=>a1z.l0 k 16 (castN n) (castN (flatN (n.take i))) (i:Int)) (castN (flatN n),true):=by
 intro m
 induction m with
 |zero=>
  intro i hi;refine Ev.step (f:=fun _=>some (castN (flatN n),true)) (fun k=> ?_) (Ev.now _);rw [a1z.l0,bTz,Yb (by omega),List.take_of_length_le (by omega)]
 |succ m ih=>
  intro i hi;obtain ⟨x,hx⟩: ∃x,n[i]?=some x:=⟨_,Zf (by omega)⟩;have a0:=hb x (Zo hx);have hin:inF 16 (x:Int)=true:=by unfold inF;rw [show fsize 16=65536 from rfl];simp;omega
  have hfl:=flatN_len (n.take i);rw [List.length_take] at hfl
  have e5:castN (flatN [x])= [(x:Int) % 256 % 256] ++ [(x:Int) / 256 % 256] :=by
   simp only [castN,flatN,List.map_cons,List.map_nil,List.cons_append,List.nil_append];rw [show ((x % 256:Nat):Int)=(x:Int) % 256 % 256 by omega,show ((x / 256 % 256:Nat):Int)=(x:Int) / 256 % 256 by omega]
  refine Ev.step (fun k=> ?_) (ih (i+1) (by omega));rw [a1z.l0,bTz,Ya (by omega),Ya (by omega),ewz n i x hx,rin_f k (.inr rfl),Zl,Ya hin,bTz,Ya (by omega),Zl,Ya rfl,List.length_append,bTz,Ya (by simp;omega),w64 (x:=(i:Int)+1) (by omega) (by omega),Int.tdiv_eq_ediv_of_nonneg (by omega),w64 (x:=(x:Int) / 256) (by omega) (by omega),List.take_add_one,hx,Option.toList_some,flatN_snoc,fnz,show ((i:Int)+1)=((i+1:Nat):Int) by omega,Int.tmod_eq_emod_of_nonneg (by omega),List.append_assoc,e5]
theorem rbytes_ev {wb:Int} (hw:wb=8\/wb=16) (n:List Nat) (hb: ∀x,x∈n->(x:Int)<fsize wb) (hl:n.length<=1000000):Ev (fun k=>a1z.f k wb (castN n)) (castN (if wb=8 then n else flatN n),true):=by
 rcases hw with rfl|rfl
 ·rw [Ya rfl];refine Ev.congr (fun k=>by unfold a1z.f;simp [castN]) (rbytes8_l n (fun x hx=>by have:=hb x hx;rw [show fsize 8=256 from rfl] at this;omega) hl n.length 0 (by omega))
 ·rw [Yb (by decide)]
  have a0: ∀x,x∈n->x<65536:=fun x hx=>by
   have:=hb x hx;rw [fsize16] at this;omega
  have h:=rbytes16_l n a0 hl n.length 0 (by omega);unfold a1z.f;exact h
theorem rmul3_l {wb : Int} (hw : wb = 8 \/ wb = 16) (c : Int) (n : List Nat) (hl : n.length <= 1000000) (r : List Int × Bool) (hr : Ev (fun k => (a1z.f k wb (castN (mapN (mN wb c) n))).bind fun t => some (t.1, t.2)) r) :
  ∀(m i:Nat),i+m=n.length->Ev (fun k=>a4z.l0 k wb (fpoly wb) c (castN n) (castN (mapN (mN wb c) (n.take i))) (i:Int)) r:=by
 intro m
 induction m with
 |zero=>
  intro i hi;refine Ev.step (fun k=> ?_) hr;rw [a4z.l0,bTz,Yb (by omega),List.take_of_length_le (by omega)]
 |succ m ih=>
  intro i hi;obtain ⟨x,hx⟩: ∃x,n[i]?=some x:=⟨_,Zf (by omega)⟩;have hg:=bIz hw c (x:Int);refine Ev.step (fun k=> ?_) (ih (i+1) (by omega));rw [a4z.l0,bTz,Ya (by omega),Ya (by omega),ewz n i x hx,rmul2_f k hw,Zl,bTz,Ya (by unfold mapN;rw [List.length_map,List.length_take];omega),w64 (by omega) (by omega),show ((i:Int)+1)=((i+1:Nat):Int) by omega,List.take_add_one,hx];congr 2
  unfold mapN castN mN;simp;omega
theorem rmul3_ev {wb:Int} (hw:wb=8\/wb=16) (c:Int) (hc:inF wb c=true) (n:List Nat) (hb: ∀x,x∈n->x<256) (hl:n.length<=1000000) (he:n.length % wN wb=0):Ev (fun k=>a4z.f k wb (fpoly wb) c (castN n)) (castN (mulN wb c n),true):=by
 refine Ev.bind (rwords_ev hw n hb hl he) ?_;refine Ev.congr (fun k=>by rw [Ya rfl,rin_f k hw,Zl,hc]) ?_;refine Ev.step (fun k=>by rw [a4z.j0,Yb (by decide)]) ?_;obtain ⟨q,hq⟩: ∃q,(if wb=8 then n else pairN n)=q:=⟨_,rfl⟩
 have a0:q.length<=1000000:=by
  rw [<-hq];split
  ·exact hl
  ·rw [ekz];omega
 have b0: ∀x,x∈mapN (mN wb c) q->(x:Int)<fsize wb:=by
  intro x hx;unfold mapN at hx;obtain ⟨y,hy,rfl⟩:=List.mem_map.1 hx;have:=bIz hw c (y:Int);unfold mN;omega
 have hB:=rbytes_ev hw (mapN (mN wb c) q) b0 (by unfold mapN;rw [List.length_map];exact a0)
 have hfin:castN (mulN wb c n)=castN (if wb=8 then mapN (mN wb c) q else flatN (mapN (mN wb c) q)):=by
  unfold mulN;rcases hw with rfl|rfl
  ·rw [Ya rfl,Ya rfl, <-hq,Ya rfl]
  ·rw [Yb (by decide),Yb (by decide), <-hq,Yb (by decide)]
 rw [hq,hfin];exact rmul3_l hw c q a0 _ (Ev.bind hB (Ev.now _)) q.length 0 (by omega)
theorem radd_l (a b:List Int) (hl:a.length=b.length) (hm:a.length<=1000000): ∀(m i:Nat),i+m=a.length->Ev (fun k=>aZz.l0 k a b ((xorB a b).take i) (i:Int)) (xorB a b,true):=by
 have hxl:(xorB a b).length=a.length:=by rw [dkz a b hl,hl]
 intro m
 induction m with
 |zero=>
  intro i hi;refine Ev.step (f:=fun _=>some (xorB a b,true)) (fun k=> ?_) (Ev.now _);rw [aZz.l0,Yb (by omega),List.take_of_length_le (by omega)]
 |succ m ih=>
  intro i hi;have hia:i<a.length:=by omega
  have hib:i<b.length:=by omega
  have e1:rd a (i:Int)=a[i] :=by unfold rd;rw [Zu,Zm,Zf hia];rfl
  have e2:rd b (i:Int)=b[i] :=by unfold rd;rw [Zu,Zm,Zf hib];rfl
  have e3:(xorB a b)[i]?=some (Go.bits .xor .u8 a[i] b[i]):=by
   unfold xorB;rw [List.getElem?_zipWith,Zf hia,Zf hib]
  refine Ev.step (fun k=> ?_) (ih (i+1) (by omega));rw [aZz.l0,Ya (by omega),Ya (by omega),Ya (by omega),Ya (by rw [List.length_take];omega),e1,e2,w64 (by omega) (by omega),show ((i:Int)+1)=((i+1:Nat):Int) by omega,List.take_add_one,e3];rfl
theorem radd_ev (a b:List Int) (hl:a.length=b.length) (hm:a.length<=1000000):Ev (fun k=>aZz.f k a b) (xorB a b,true):=by
 refine Ev.congr (fun k=> ?_) (radd_l a b hl hm a.length 0 (by omega));unfold aZz.f;rw [Ya (by omega)];rfl
theorem xor_zero_row (x:List Nat) (hb: ∀y,y∈x->y<256):xorN (List.replicate x.length 0) x=x:=by
 clear hb
 induction x with
 |nil=>rfl
 |cons y x ih=>
  unfold xorN at ih|-;rw [List.length_cons,List.replicate_succ,List.zipWith_cons_cons,ih,Nat.zero_xor]
theorem rdot_l {wb:Int} (hw:wb=8\/wb=16) (S:Nat) (hS:S<=1000000) (he:S % wN wb=0) (c:List Int) (P:List (List Nat)) (hc:c.length=P.length) (hcl:P.length<=1000) (hin: ∀x,x∈c->inF wb x=true) (hP: ∀r,r∈P->r.length=S/\ ∀x,x∈r->x<256):
  ∀(m i:Nat),i+m=P.length->0<i->Ev (fun k=>alz.l0 k wb (fpoly wb) c (P.map castN) (castN (dotN S wb (c.take i) (P.take i))) (i:Int)) (castN (dotN S wb c P),true):=by
 intro m
 induction m with
 |zero=>
  intro i hi _;refine Ev.step (f:=fun _=>some (castN (dotN S wb c P),true)) (fun k=> ?_) (Ev.now _);rw [alz.l0,Yb (by omega),List.take_of_length_le (by omega),List.take_of_length_le (by omega)]
 |succ m ih=>
  intro i hi h0;obtain ⟨x,hx⟩: ∃x,c[i]?=some x:=⟨_,Zf (by omega)⟩;obtain ⟨r,hr⟩: ∃r,P[i]?=some r:=⟨_,Zf (by omega)⟩;obtain ⟨r0,f0⟩: ∃r,P[0]?=some r:=⟨_,Zf (by omega)⟩;have a0:=hP r (Zo hr);have d0:=hP r0 (Zo f0);have e1:rd c (i:Int)=x:=by unfold rd;rw [Zu,Zm,hx];rfl
  have e2:rd_L1 (P.map castN) (i:Int)=castN r:=by unfold rd_L1;rw [Zu,Zm,List.getElem?_map,hr];rfl
  have e0:rd_L1 (P.map castN) 0=castN r0:=by unfold rd_L1;rw [show (0:Int).toNat=0 from rfl,Zm,List.getElem?_map,f0];rfl
  have hz:List.zipWith (mulN wb) (c.take (i+1)) (P.take (i+1))=List.zipWith (mulN wb) (c.take i) (P.take i)++ [mulN wb x r] :=fsz _ _ _ _ _ _ hx hr;have j0:(mulN wb x r).length=S:=by rw [fjz hw x r a0.2 (by rw [a0.1];exact he),a0.1]
  have hzl: ∀q,q∈List.zipWith (mulN wb) (c.take i) (P.take i)->q.length=S:=by
   intro q hq;obtain ⟨j,hj⟩:=List.getElem?_of_mem hq;rw [List.getElem?_zipWith] at hj
   cases hcj:(c.take i)[j]? with
   |none=>rw [hcj] at hj;simp at hj
   |some y=>
    cases b0:(P.take i)[j]? with
    |none=>rw [hcj,b0] at hj;simp at hj
    |some z=>
     rw [hcj,b0] at hj;obtain rfl:=Zn hj;have c0:=hP z (List.mem_of_mem_take (Zo b0));rw [fjz hw y z c0.2 (by rw [c0.1];exact he),c0.1]
  have hfl: ∀(zs:List (List Nat)) (a:List Nat),a.length=S->(∀q,q∈zs->q.length=S)->(zs.foldl xorN a).length=S:=by
   intro zs
   induction zs with
   |nil=>intro a ha _;exact ha
   |cons z zs ih2=>intro a ha h;exact ih2 _ (xorN_len2 ha (h z (List.mem_cons_self ..))) (fun q hq=>h q (List.mem_cons_of_mem _ hq))
  have hdl:(dotN S wb (c.take i) (P.take i)).length=S:=hfl _ _ List.length_replicate hzl
  have hzb: ∀q,q∈List.zipWith (mulN wb) (c.take i) (P.take i)-> ∀y,y∈q->y<256:=by
   intro q hq;obtain ⟨j,hj⟩:=List.getElem?_of_mem hq;rw [List.getElem?_zipWith] at hj
   cases hcj:(c.take i)[j]? with
   |none=>rw [hcj] at hj;simp at hj
   |some y=>
    cases b0:(P.take i)[j]? with
    |none=>rw [hcj,b0] at hj;simp at hj
    |some z=>
     rw [hcj,b0] at hj;obtain rfl:=Zn hj;exact eaz wb y z
  have g0: ∀(zs:List (List Nat)) (a:List Nat),(∀y,y∈a->y<256)->(∀q,q∈zs-> ∀y,y∈q->y<256)-> ∀y,y∈zs.foldl xorN a->y<256:=by
   intro zs
   induction zs with
   |nil=>intro a ha _;exact ha
   |cons z zs ih2=>intro a ha h;exact ih2 _ (xorN_lt (w:=8) _ _ ha (h z (List.mem_cons_self ..))) (fun q hq=>h q (List.mem_cons_of_mem _ hq))
  have i0: ∀y,y∈dotN S wb (c.take i) (P.take i)->y<256:=g0 _ _ (fun y hy=>by rw [List.mem_replicate] at hy;omega) hzb
  have hstep:dotN S wb (c.take (i+1)) (P.take (i+1))=xorN (dotN S wb (c.take i) (P.take i)) (mulN wb x r):=by
   unfold dotN;rw [hz,List.foldl_append];rfl
  have hnext:=ih (i+1) (by omega) (by omega);rw [hstep] at hnext;have hadd:=radd_ev (castN (dotN S wb (c.take i) (P.take i))) (castN (mulN wb x r)) (by rw [bTz,bTz,hdl,j0]) (by rw [bTz,hdl];exact hS);rw [show xorB (castN (dotN S wb (c.take i) (P.take i))) (castN (mulN wb x r))=castN (xorN (dotN S wb (c.take i) (P.take i)) (mulN wb x r)) from xorB_nat _ _ i0 (eaz wb x r)] at hadd
  have k0:Ev (fun k=>alz.j2 k wb (fpoly wb) c (P.map castN) (castN (dotN S wb (c.take i) (P.take i))) (i:Int) (castN (mulN wb x r)) false) (castN (dotN S wb c P),true):=by
   refine Ev.step (fun k=> ?_) (Ev.bind (f:=fun k t=>alz.l0 k wb (fpoly wb) c (P.map castN) t.1 ((i+1:Nat):Int)) hadd hnext);rw [alz.j2,Yb (by decide),Yb (by omega),w64 (by omega) (by omega)];rfl
  refine Ev.step (f:=fun k=>(a4z.f k wb (fpoly wb) x (castN r)).bind fun t=>if t.2=true then (if 0<((P.map castN).length:Int) then alz.j2 k wb (fpoly wb) c (P.map castN) (castN (dotN S wb (c.take i) (P.take i))) (i:Int) t.1 (((rd_L1 (P.map castN) (i:Int)).length:Int) !=((rd_L1 (P.map castN) 0).length:Int)) else none) else alz.j2 k wb (fpoly wb) c (P.map castN) (castN (dotN S wb (c.take i) (P.take i))) (i:Int) t.1 true) (fun k=> ?_) (Ev.bind (rmul3_ev hw x (hin x (Zo hx)) r a0.2 (by omega) (by rw [a0.1];exact he)) (Ev.congr (fun k=> ?_) k0))
  ·rw [alz.l0,Ya (by omega),Ya (by omega),Ya (by rw [List.length_map];omega),e1]
   conv=>lhs;rw [e2]
   rw [e2]
  ·dsimp only;rw [Ya rfl,Ya (by rw [List.length_map];omega),e2,e0,bTz,bTz,a0.1,d0.1,bne_self_eq_false]
theorem rdot_ev {wb:Int} (hw:wb=8\/wb=16) (S:Nat) (hS:S<=1000000) (he:S % wN wb=0) (c:List Int) (P:List (List Nat)) (hc:c.length=P.length) (hcl:P.length<=1000) (h0:0<P.length) (hin: ∀x,x∈c->inF wb x=true) (hP: ∀r,r∈P->r.length=S/\ ∀x,x∈r->x<256):
  Ev (fun k=>alz.f k wb (fpoly wb) c (P.map castN)) (castN (dotN S wb c P),true):=by
 obtain ⟨x,hx⟩: ∃x,c[0]?=some x:=⟨_,Zf (by omega)⟩;obtain ⟨r,hr⟩: ∃r,P[0]?=some r:=⟨_,Zf (by omega)⟩;have a0:=hP r (Zo hr);have e1:rd c 0=x:=by unfold rd;rw [show (0:Int).toNat=0 from rfl,Zm,hx];rfl
 have e0:rd_L1 (P.map castN) 0=castN r:=by unfold rd_L1;rw [show (0:Int).toNat=0 from rfl,Zm,List.getElem?_map,hr];rfl
 have b0:(mulN wb x r).length=S:=by rw [fjz hw x r a0.2 (by rw [a0.1];exact he),a0.1]
 have hone:dotN S wb (c.take 1) (P.take 1)=mulN wb x r:=by
  rw [List.take_add_one,List.take_add_one,hx,hr];unfold dotN;show xorN (List.replicate S 0) (mulN wb x r)=_;rw [<-b0];exact xor_zero_row _ (eaz wb x r)
 have hnext:=rdot_l hw S hS he c P hc hcl hin hP (P.length - 1) 1 (by omega) (by omega);rw [hone] at hnext;refine Ev.congr (fun k=>by unfold alz.f;rw [Ya (by rw [List.length_map];omega),beq_eq_false_iff_ne.2 (show (c.length:Int)≠0 by omega)]) ?_;refine Ev.step (fun k=>by rw [alz.j0,Yb (by decide)]) ?_
 have c0:Ev (fun k=>alz.j2 k wb (fpoly wb) c (P.map castN) ([] :List Int) 0 (castN (mulN wb x r)) false) (castN (dotN S wb c P),true):=by
  refine Ev.step (fun k=> ?_) hnext;rw [alz.j2,Yb (by decide),Ya rfl,show wrap64 (0+1)=((1:Nat):Int) by unfold wrap64;omega]
 refine Ev.step (f:=fun k=>(a4z.f k wb (fpoly wb) x (castN r)).bind fun t=>if t.2=true then (if 0<((P.map castN).length:Int) then alz.j2 k wb (fpoly wb) c (P.map castN) ([] :List Int) 0 t.1 (((rd_L1 (P.map castN) 0).length:Int) !=((rd_L1 (P.map castN) 0).length:Int)) else none) else alz.j2 k wb (fpoly wb) c (P.map castN) ([] :List Int) 0 t.1 true) (fun k=> ?_) (Ev.bind (rmul3_ev hw x (hin x (Zo hx)) r a0.2 (by omega) (by rw [a0.1];exact he)) (Ev.congr (fun k=> ?_) c0))
 ·rw [alz.l0,Ya (by omega),Ya (by omega),Ya (by rw [List.length_map];omega),e1,e0]
 ·dsimp only;rw [Ya rfl,Ya (by rw [List.length_map];omega),bne_self_eq_false]
def evenP (wb:Int) (L:Nat) (r:List Int):Bool:=r.length==L&&evB wb r
theorem rd1_at (l:List (List Int)) (i:Nat) (r:List Int) (h:l[i]?=some r):rd_L1 l (i:Int)=r:=by
 unfold rd_L1;rw [Zu,Zm,h];rfl
theorem reven_l (wb:Int) (hw:wb=8\/wb=16) (L:Nat) (l:List (List Int)) (r0:List Int) (h0:l[0]?=some r0) (hL:r0.length=L) (hl:l.length<=1000000) (hr: ∀r,r∈l->r.length<=1000000) (t:ByteArray) (b c d:Int):
  ∀(m i:Nat),i+m=l.length->Ev (fun k=>bjz.l0 k l (i:Int) t wb b c d) ((l.drop i).all (evenP wb L)):=by
 intro m
 induction m with
 |zero=>
  intro i hi;refine Ev.step (f:=fun _=>some true) (fun k=> ?_) ?_
  ·rw [bjz.l0,Yb (by omega)]
  ·rw [List.drop_of_length_le (by omega)];exact Ev.now _
 |succ m ih=>
  intro i hi;obtain ⟨r,a0⟩: ∃r,l[i]?=some r:=⟨_,Zf (by omega)⟩;have hrl:=hr r (Zo a0);have h0':rd_L1 l 0=r0:=rd1_at l 0 r0 h0
  have hd:l.drop i=r::l.drop (i+1):=by
   rw [List.drop_eq_getElem_cons (by omega)];congr 1
   exact Zn ((Zf (by omega)).symm.trans a0)
  rw [hd,List.all_cons];by_cases c1:r.length=L
  ·by_cases c2:evB wb r=true
   ·rw [show evenP wb L r=true by unfold evenP;rw [c2,c1];simp,Bool.true_and];refine Ev.step (fun k=> ?_) (ih (i+1) (by omega))
    have c3:Int.tmod (8*(r.length:Int)) wb=0:=by
     rw [Int.tmod_eq_emod_of_nonneg (by omega)];unfold evB at c2;have c2:=eq_of_beq c2;rcases hw with rfl|rfl
     ·omega
     ·rw [show wN 16=2 from rfl] at c2;omega
    rw [bjz.l0,Ya (by omega),Ya (by omega),Ya (by omega),rd1_at l i r a0,h0',Ya (by omega),Yb (by omega),w64 (by omega) (by omega),Ya c3,w64 (by omega) (by omega),show ((i:Int)+1)=((i+1:Nat):Int) by omega]
   ·rw [show evenP wb L r=false by unfold evenP;rw [Bool.eq_false_iff.2 c2];simp,Bool.false_and];refine Ev.step (f:=fun _=>some false) (fun k=> ?_) (Ev.now _)
    have c3: ¬Int.tmod (8*(r.length:Int)) wb=0:=by
     rw [Int.tmod_eq_emod_of_nonneg (by omega)];intro h;apply c2
     unfold evB;rcases hw with rfl|rfl
     ·rw [show wN 8=1 from rfl,Nat.mod_one];rfl
     ·rw [show wN 16=2 from rfl,beq_iff_eq];omega
    rw [bjz.l0,Ya (by omega),Ya (by omega),Ya (by omega),rd1_at l i r a0,h0',Ya (by omega),Yb (by omega),w64 (by omega) (by omega),Yb c3]
  ·rw [show evenP wb L r=false by unfold evenP;rw [beq_eq_false_iff_ne.2 c1];simp,Bool.false_and];refine Ev.step (f:=fun _=>some false) (fun k=> ?_) (Ev.now _);rw [bjz.l0,Ya (by omega),Ya (by omega),Ya (by omega),rd1_at l i r a0,h0',Yb (by omega)]
theorem reven_ev (q:Int) (h1:1<=q) (h2:q<=6) (x y:Int) (l:List (List Int)) (L:Nat) (r0:List Int) (h0:l[0]?=some r0) (hL:r0.length=L) (hl:l.length<=1000000) (hr: ∀r,r∈l->r.length<=1000000):
  Ev (fun k=>bjz.f k q x y l) (l.all (evenP (pbits q) L)):=by
 obtain ⟨t,b,c,he⟩:=rof_ev q h1 h2;refine Ev.congr (fun k=> ?_) (reven_l (pbits q) (dQz q) L l r0 h0 hL hl hr t (fpoly (pbits q)) b c l.length 0 (by omega));unfold bjz.f;rw [he,Zl];rfl
theorem rpar_l (q:Int) (K M L:Nat) (P:List (List Nat)) (hL:L<=1000000) (hd:L % wN (pbits q)=0) (hP: ∀r,r∈P->r.length=L/\ ∀x,x∈r->x<256) (h0:0<P.length) (hn:P.length<=1000) (rows:List (List Int)) (hrl:rows.length<=1000) (hrows: ∀r,r∈rows->r.length=P.length/\ ∀x,x∈r->inF (pbits q) x=true) (t:ByteArray) (b c:Int):
  ∀(m i:Nat),i+m=rows.length->Ev (fun k=>aqz.l0 k (P.map castN) rows ((rows.take i).map fun r=>castN (dotN L (pbits q) r P)) (i:Int) t (pbits q) (fpoly (pbits q)) b c) (rows.map (fun r=>castN (dotN L (pbits q) r P)),0):=by
 intro m
 induction m with
 |zero=>
  intro i hi;refine Ev.step (f:=fun _=>some (rows.map (fun r=>castN (dotN L (pbits q) r P)),0)) (fun k=> ?_) (Ev.now _);rw [aqz.l0,Yb (by omega),List.take_of_length_le (by omega)]
 |succ m ih=>
  intro i hi;obtain ⟨r,a0⟩: ∃r,rows[i]?=some r:=⟨_,Zf (by omega)⟩;have hrr:=hrows r (Zo a0)
  have e1:rd_L4 rows (i:Int)=r:=by
   unfold rd_L4;rw [Zu,Zm,a0];rfl
  have hnext:=ih (i+1) (by omega);rw [List.take_add_one,a0,Option.toList_some,List.map_append,List.map_singleton] at hnext;refine Ev.step (f:=fun k=>(alz.f k (pbits q) (fpoly (pbits q)) r (P.map castN)).bind fun u=>if ((rows.take i).map fun r=>castN (dotN L (pbits q) r P)).length<5864062014805 then aqz.l0 k (P.map castN) rows (((rows.take i).map fun r=>castN (dotN L (pbits q) r P))++ [u.1]) (wrap64 ((i:Int)+1)) t (pbits q) (fpoly (pbits q)) b c else none) (fun k=> ?_) (Ev.bind (rdot_ev (dQz q) L hL hd r P hrr.1 hn h0 hrr.2 hP) (Ev.congr (fun k=> ?_) hnext))
  ·rw [aqz.l0,Ya (by omega),Ya (by omega),e1]
  ·dsimp only;rw [Ya (by rw [List.length_map,List.length_take];omega),w64 (by omega) (by omega),show ((i:Int)+1)=((i+1:Nat):Int) by omega]
theorem bytes_nat (l:List (List Int)) (hb: ∀r,r∈l-> ∀x,x∈r->0<=x/\x<=255): ∃P:List (List Nat),l=P.map castN/\ ∀r,r∈P-> ∀x,x∈r->x<256:=by
 induction l with
 |nil=>exact ⟨[],rfl,fun r h=>by simp at h⟩
 |cons a l ih=>
  obtain ⟨P,e,h⟩:=ih (fun r hr=>hb r (List.mem_cons_of_mem _ hr));obtain ⟨n,hn,a0⟩:=isB_of a (hb a (List.mem_cons_self ..));refine ⟨n::P,?_,fun r hr=> ?_⟩
  ·rw [e,hn];rfl
  ·rcases List.mem_cons.1 hr with rfl|hr
   ·exact a0
   ·exact h r hr
theorem rpar11 (q x y:Int) (l:List (List Int)) (hl:l.length<=1000) (hr: ∀r,r∈l->r.length<=1000000) (hb: ∀r,r∈l-> ∀x,x∈r->0<=x/\x<=255):
  ∃(p:List (List Int)) (e:Int),Ev (fun k=>aqz.f k q x y l) (p,e)/\Ev (fun k=>ayz.f k q x y l) (p,e)/\p.length<=1000/\(∀r,r∈p->r.length<=1000000)/\(e=0\/e=1)/\(∀r,r∈p-> ∀x,x∈r->0<=x/\x<=255):=by
 have hbad: ∀(f:Nat->Option (List (List Int)×Int)),Ev f ([],1)->Ev (fun k=>ayz.f k q x y l) ([],1)->Ev (fun k=>f k) (([] :List (List Int)),(1:Int))/\Ev (fun k=>ayz.f k q x y l) (([] :List (List Int)),(1:Int))/\([] :List (List Int)).length<=1000/\(∀r,r∈([] :List (List Int))->r.length<=1000000)/\((1:Int)=0\/(1:Int)=1)/\(∀r,r∈([] :List (List Int))-> ∀x,x∈r->0<=x/\x<=255):=
  fun f h1 h2=>⟨h1,h2,Nat.zero_le _,fun r h=>by simp at h, .inr rfl,fun r h=>by simp at h⟩
 obtain ⟨mb,hmb⟩:=may_some q x y;have hj: ∀(a b c:Int),Ev (fun k=>aqz.j0 k l true a b c) ([],1):=fun a b c=>Ev.step (f:=fun _=>some ([],1)) (fun k=>by rw [aqz.j0,Ya rfl]) (Ev.now _)
 cases mb with
 |false=>
  refine ⟨[],1,hbad _ (Ev.congr (fun k=> ?_) (hj q x y)) (Ev.congr (fun k=> ?_) (Ev.now _))⟩
  ·unfold aqz.f;rw [evz,hmb,Zl,Yb (by decide)]
  ·unfold ayz.f;rw [hmb,Zl,Yb (by decide)]
 |true=>
  obtain ⟨p1,p2,k1,k2,m1,m2⟩:=bZz hmb;obtain ⟨K,rfl⟩: ∃K:Nat,x=K:=⟨x.toNat,by omega⟩;obtain ⟨M,rfl⟩: ∃M:Nat,y=M:=⟨y.toNat,by omega⟩;have hgd:=cZz q K M (by omega) (by omega) (by omega) (by omega);by_cases hlen:(l.length:Int)=(K:Int)
  ·obtain ⟨r0,h0⟩: ∃r,l[0]?=some r:=⟨_,Zf (by omega)⟩;have f0:=hr r0 (Zo h0);obtain ⟨L,hL⟩: ∃L,r0.length=L:=⟨_,rfl⟩;have hev:=reven_ev q p1 p2 (K:Int) (M:Int) l L r0 h0 hL (by omega) hr
   have hsm:ayz.small l=true:=by
    simp only [ayz.small,Bool.and_eq_true,decide_eq_true_eq,List.all_eq_true];exact ⟨by omega,hr⟩
   by_cases hall:l.all (evenP (pbits q) L)=true
   ·have hall' : ∀ r, r ∈ l -> r.length = L /\ r.length % wN (pbits q) = 0 := fun r hm => by
     have:=List.all_eq_true.1 hall r hm;unfold evenP evB at this
     simpa using this
    have d0:L % wN (pbits q)=0:=by
     have:=hall' r0 (Zo h0);rw [this.1] at this;exact this.2
    have h2:=par_ev q K M L l hmb (by omega) (by omega) d0 (fun r hm=>(hall' r hm).1);obtain ⟨P,c0,hP⟩:=bytes_nat l hb;have g0:P.length=l.length:=by rw [c0,List.length_map]
    have e0: ∀r,r∈P->r.length=L/\ ∀x,x∈r->x<256:=fun r hm=>⟨by
     have:=(hall' (castN r) (by rw [c0];exact List.mem_map_of_mem hm)).1
     rwa [bTz] at this,hP r hm⟩
    have a0: ∀r,r∈parM q K M->r.length=P.length/\ ∀x,x∈r->inF (pbits q) x=true:=fun r hm=>by
     have:=hgd.1 r hm;refine ⟨by rw [this.1];omega,fun z hz=> ?_⟩;have:=this.2 z hz;unfold inF;rw [Zd this.1,Zd this.2];rfl
    have hpv:parV L q K M l=(parM q K M).map (fun r=>castN (dotN L (pbits q) r P)):=by
     unfold parV;refine List.map_congr_left (fun r hm=> ?_);rw [c0];exact eFz (dQz q) L r P (fun r hr=>⟨(e0 r hr).2,by rw [(e0 r hr).1];exact d0⟩)
    obtain ⟨t,b,c,he⟩:=rof_ev q p1 p2;have h3:=rpar_l q K M L P (by omega) d0 e0 (by omega) (by omega) (parM q K M) (by rw [hgd.2];omega) a0 t b c (parM q K M).length 0 (by omega);rw [<-c0, <-hpv] at h3
    have hvl: ∀r,r∈parV L q K M l->r.length=L:=by
     intro r hm;unfold parV at hm;obtain ⟨c, -,rfl⟩:=List.mem_map.1 hm;exact dotV_len d0 (fun r hm=>(hall' r hm).1)
    refine ⟨parV L q K M l,0,?_,h2,?_,fun r hm=>by rw [hvl r hm];omega, .inl rfl,?_⟩
    ·refine Ev.congr (fun k=>by unfold aqz.f;rw [evz,hmb,Zl,Ya rfl,Ya hlen]) ?_;refine Ev.bind hev ?_;rw [hall];refine Ev.step (f:=fun k=>(bsz.f k q (K:Int) (M:Int)).bind fun u=>aqz.l0 k l u.1 ([] :List (List Int)) 0 t (pbits q) (fpoly (pbits q)) b c) (fun k=> ?_) (Ev.bind (rpar_ev q K M hmb) h3);show aqz.j0 (k+1) l false q (K:Int) (M:Int)=_;rw [aqz.j0,Yb (by decide),he,Zl]
    ·rw [eEz L q K M l hmb];omega
    ·rw [hpv];intro r hm z hz;obtain ⟨c, -,rfl⟩:=List.mem_map.1 hm;unfold castN at hz;obtain ⟨w,hw,rfl⟩:=List.mem_map.1 hz;have:=dotN_lt L (pbits q) c P w hw;omega
   ·refine ⟨[],1,hbad _ ?_ ?_⟩
    ·refine Ev.congr (fun k=>by unfold aqz.f;rw [evz,hmb,Zl,Ya rfl,Ya hlen]) ?_;refine Ev.bind hev ?_;rw [Bool.eq_false_iff.2 hall];exact hj q (K:Int) (M:Int)
    ·obtain ⟨c, rest, hc⟩ : ∃ c rest, parM q K M = c :: rest := by
      cases e:parM q K M with
      |nil=>rw [e] at hgd;simp at hgd;omega
      |cons c rest=>exact ⟨c,rest,rfl⟩
     have hcl:=(hgd.1 c (by rw [hc];exact List.mem_cons_self ..)).1
     have b0:Ev (fun k=>dotB k (pbits q) c l) ([],1):=by
      by_cases he:l.all (evB (pbits q))=true
      ·have hex : ∃ r, r ∈ l /\ r.length ≠ L := by
        apply Classical.byContradiction
        intro hno;apply hall
        rw [List.all_eq_true];intro r hm;have h1:=List.all_eq_true.1 he r hm;have h2:r.length=L:=Classical.byContradiction fun h=>hno ⟨r,hm,h⟩
        unfold evenP;rw [h1,h2];simp
       obtain ⟨r,hm,hne⟩:=hex;obtain ⟨j,hj⟩:=List.getElem?_of_mem hm;exact dotB_bad (pbits q) c l L (by omega) (by omega) hr r0 r h0 hL j hj hne
      ·unfold dotB;exact Ev.congr (fun k=>by rw [Yb he]) (Ev.now _)
     refine Ev.congr (f:=fun k=>(dotB k (pbits q) c l).bind fun t=>if t.2=0 then ayz.l k (pbits q) l rest ([] ++ [t.1]) else some ([],1)) (fun k=> ?_) (Ev.bind b0 (Ev.congr (fun k=>by rw [Yb (by decide)]) (Ev.now _)));unfold ayz.f;rw [hmb,Zl,Ya rfl,Ya hlen,Ya hsm,Zu,Zu,hc];simp only [ayz.l]
  ·refine ⟨[],1,hbad _ (Ev.congr (fun k=> ?_) (hj q (K:Int) (M:Int))) (Ev.congr (fun k=> ?_) (Ev.now _))⟩
   ·unfold aqz.f;rw [evz,hmb,Zl,Ya rfl,Yb hlen]
   ·unfold ayz.f;rw [hmb,Zl,Ya rfl,Yb hlen]
end Go.Proofs.Xc
end
