-- Joined texts of this work (wip/tools/bundle.py).
import Derived.Lib.Bytes
import Derived.WideShapes
import Derived.ChangeSlices
import Derived.Test.YtpdakdcmahlghaaGreatBReconUpdates21
section
namespace Go.Proofs.Xc
open Go.RowKit Go.Proofs.Pw Go.Proofs.Pl Go.Proofs.Pm
attribute [local go_sem] a7z a8z bjz bkz aZz a0z a9z baz
set_option linter.unusedVariables false
set_option linter.unusedSimpArgs false
def fN (wb:Int):Nat:=if wb=8 then 256 else 65536
theorem fN_fsize {wb:Int} (hw:wb=8\/wb=16):fsize wb=(fN wb:Int):=by rcases hw with rfl|rfl<;>rfl
theorem gmul_cast {wb a b:Int} (ha:0<=a/\a<fsize wb) (hb:0<=b/\b<fsize wb):gmul wb a b=(gmN wb a.toNat b.toNat:Int):=by
 unfold gmul inF;rw [Ya (by simp [ha.1,ha.2,hb.1,hb.2])]
theorem emz {wb a b:Int} (ha:0<=a/\a<fsize wb) (hb:0<=b/\b<fsize wb):(gmul wb a b).toNat=gmN wb a.toNat b.toNat:=by
 rw [gmul_cast ha hb,Zu]
section
variable {wb : Int} (hw : wb = 8 \/ wb = 16)
include hw
theorem dcz: ∃(m q:Nat) (l:List Nat),GfInv m q l/\fN wb=2^(m+1)/\ ∀a b,gmN wb a b=gm m q a b:=by
 rcases hw with rfl|rfl
 ·exact ⟨7,285,_,gf8,rfl,fun a b=>rfl⟩
 ·exact ⟨15,69643,_,gf16,rfl,fun a b=>rfl⟩
theorem gmN_ltN {a:Nat} (b:Nat) (ha:a<fN wb):gmN wb a b<fN wb:=by
 obtain ⟨m,q,l,F,e,h⟩:=dcz hw;rw [h,e];exact F.lt (by rw [<-e];exact ha)
theorem gmN_xl {a c:Nat} (b:Nat) (ha:a<fN wb) (hc:c<fN wb):gmN wb (a^^^c) b=gmN wb a b^^^gmN wb c b:=by
 obtain ⟨m,q,l,F,e,h⟩:=dcz hw;rw [e] at ha hc;rw [h,h,h];exact F.dFz ha hc
theorem gmN_xr (a b c:Nat):gmN wb a (b^^^c)=gmN wb a b^^^gmN wb a c:=by
 obtain ⟨m,q,l,F,e,h⟩:=dcz hw;rw [h,h,h];exact Gf.dKz a b c
theorem gmN_comm {a b:Nat} (ha:a<fN wb) (hb:b<fN wb):gmN wb a b=gmN wb b a:=by
 obtain ⟨m,q,l,F,e,h⟩:=dcz hw;rw [e] at ha hb;rw [h,h];exact F.comm ha hb
theorem gmN_asc {a b:Nat} (ha:a<fN wb) (hb:b<fN wb) (c:Nat):gmN wb (gmN wb a b) c=gmN wb a (gmN wb b c):=by
 obtain ⟨m,q,l,F,e,h⟩:=dcz hw;rw [e] at ha hb;rw [h,h,h,h];exact F.assoc ha hb c
theorem gmN_id {a:Nat} (ha:a<fN wb):gmN wb a 1=a:=by
 obtain ⟨m,q,l,F,e,h⟩:=dcz hw;rw [e] at ha;rw [h];exact F.one_right ha
theorem one_ltN:1<fN wb:=by rcases hw with rfl|rfl<;>decide
theorem gmN_idl {a:Nat} (ha:a<fN wb):gmN wb 1 a=a:=by rw [gmN_comm hw (one_ltN hw) ha,gmN_id hw ha]
theorem gmN_zl (a:Nat):gmN wb 0 a=0:=by
 obtain ⟨m,q,l,F,e,h⟩:=dcz hw;rw [h];exact Gf.dLz a
theorem dlz (a:Nat):gmN wb a 0=0:=by
 obtain ⟨m,q,l,F,e,h⟩:=dcz hw;rw [h];exact Gf.zero_right a
theorem xor_ltN {a b:Nat} (ha:a<fN wb) (hb:b<fN wb):a^^^b<fN wb:=by
 obtain ⟨m,q,l,F,e,h⟩:=dcz hw;rw [e] at ha hb|-;exact Nat.xor_lt_two_pow ha hb
theorem b8z {a:Int} (ha:0<=a/\a<fsize wb):a.toNat<fN wb:=by
 have:=fN_fsize hw;omega
theorem bx_toNat {a b:Int} (ha:0<=a/\a<fsize wb) (hb:0<=b/\b<fsize wb):(Go.bits .xor .i64 a b).toNat=a.toNat^^^b.toNat:=by
 obtain ⟨x,rfl⟩: ∃x:Nat,a=x:=⟨a.toNat,by omega⟩;obtain ⟨y,rfl⟩: ∃y:Nat,b=y:=⟨b.toNat,by omega⟩;rcases dAz hw with ⟨e, -⟩|⟨e, -⟩<;>rw [e] at ha hb
 ·rw [dVz x y (by omega) (by omega)];simp
 ·rw [dVz x y (by omega) (by omega)];simp
theorem gmN_inv {a:Nat} (ha:a<fN wb) (h0:a≠0):gmN wb a (ginv wb (a:Int)).toNat=1:=by
 have e:(ginv wb (a:Int)).toNat=gpwN wb a (fsize wb - 2).toNat:=by
  have hin:inF wb (a:Int)=true:=by
   unfold inF;rw [Zd (by omega),Zd (by rw [fN_fsize hw];omega)];rfl
  have hb:((a:Int) !=0)=true:=by simpa using h0
  have hf:decide ((0:Int)<=fsize wb - 2)=true:=by rcases hw with rfl|rfl<;>rfl
  unfold ginv;rw [hin,hb,Ya (by decide)];unfold gpow;rw [hin,hf,Ya (by decide),Zu,Zu]
 rw [e];rcases hw with rfl|rfl
 ·exact gf8.inv_left (m:=7) (by exact ha) h0
 ·exact gf16.inv_left (m:=15) (by exact ha) h0
end
theorem xor4 (a b c d:Nat):(a^^^b)^^^(c^^^d)=(a^^^c)^^^(b^^^d):=by
 rw [Nat.xor_assoc,Nat.xor_assoc, <-Nat.xor_assoc b, <-Nat.xor_assoc c,Nat.xor_comm b]
def evN (wb:Int):List Int->List Nat->Nat
 |x::r,y::v=>gmN wb x.toNat y^^^evN wb r v
 |_,_=>0
section
variable {wb : Int} (hw : wb = 8 \/ wb = 16)
include hw
theorem evN_clr {n : Int} (hn : 0 <= n /\ n < fsize wb) : ∀ (r p : List Int) (v : List Nat), r.length = p.length -> (∀ x, x ∈ r -> 0 <= x /\ x < fsize wb) -> (∀ x, x ∈ p -> 0 <= x /\ x < fsize wb) ->
  evN wb (List.zipWith (clrF wb n) r p) v=evN wb r v^^^gmN wb n.toNat (evN wb p v)
 | [], [],v,_,_,_=>by simp [evN,dlz hw]
 | [],_::_,_,h,_,_=>by simp at h
 |_::_, [],_,h,_,_=>by simp at h
 |x::r,y::p, [],_,_,_=>by simp [evN,dlz hw]
 |x::r,y::p,z::v,h,hr,hp=>by
  have ih:=evN_clr hn r p v (by simpa using h) (fun x hx=>hr x (List.mem_cons_of_mem _ hx)) (fun x hx=>hp x (List.mem_cons_of_mem _ hx));have hx:=hr x (List.mem_cons_self ..);have hy:=hp y (List.mem_cons_self ..);show gmN wb (clrF wb n x y).toNat z^^^evN wb (List.zipWith (clrF wb n) r p) v=(gmN wb x.toNat z^^^evN wb r v)^^^gmN wb n.toNat (gmN wb y.toNat z^^^evN wb p v)
  have e:(clrF wb n x y).toNat=x.toNat^^^gmN wb n.toNat y.toNat:=by
   unfold clrF;rw [bx_toNat hw hx (bQz hw _ _),emz hn hy]
  rw [ih,e,gmN_xl hw z (b8z hw hx) (gmN_ltN hw _ (b8z hw hn)),gmN_asc hw (b8z hw hn) (b8z hw hy),gmN_xr hw,xor4]
theorem evN_scl {c : Int} (hc : 0 <= c /\ c < fsize wb) : ∀ (p : List Int) (v : List Nat), (∀ x, x ∈ p -> 0 <= x /\ x < fsize wb) ->
  evN wb (List.zipWith (fun x _=>gmul wb x c) p p) v=gmN wb c.toNat (evN wb p v)
 | [],v,_=>by simp [evN,dlz hw]
 |x::p, [],_=>by simp [evN,dlz hw]
 |x::p,z::v,hp=>by
  have ih:=evN_scl hc p v (fun x hx=>hp x (List.mem_cons_of_mem _ hx));have hx:=hp x (List.mem_cons_self ..);show gmN wb (gmul wb x c).toNat z^^^evN wb (List.zipWith (fun x _=>gmul wb x c) p p) v=gmN wb c.toNat (gmN wb x.toNat z^^^evN wb p v);rw [ih,emz hx hc,gmN_xr hw,gmN_comm hw (b8z hw hx) (b8z hw hc),gmN_asc hw (b8z hw hc) (b8z hw hx)]
theorem evN_off: ∀(r:List Int) (v:List Nat),(∀j,j<v.length->r.getD j 0=0\/v.getD j 0=0)->evN wb r v=0
 | [],v,_=>rfl
 |x::r, [],_=>rfl
 |x::r,y::v,h=>by
  have ih:=evN_off r v (fun j hj=>by simpa using h (j+1) (by simpa using hj));have h0:=h 0 (by simp);show gmN wb x.toNat y^^^evN wb r v=0;rw [ih];rcases h0 with h0|h0
  ·have:x=0:=by simpa using h0
   rw [this];simp [gmN_zl hw]
  ·have:y=0:=by simpa using h0
   rw [this];simp [dlz hw]
theorem evN_two: ∀(r:List Int) (v:List Nat) (i c:Nat),i<c->c<v.length->r.getD i 0=1->v.getD c 0=1->(v.getD i 0=(r.getD c 0).toNat)->(0<=r.getD c 0/\r.getD c 0<fsize wb)->(∀j,j<v.length->j≠i->j≠c->r.getD j 0=0\/v.getD j 0=0)->evN wb r v=0
 | [],v,i,c,_,_,h1,_,_,_,_=>by simp at h1
 |x::r, [],i,c,_,h,_,_,_,_,_=>by simp at h
 |x::r,y::v,0,c+1,_,hc,h1,h2,h3,h4,h=>by
  have e1:x=1:=by simpa using h1
  have e2:v.getD c 0=1:=by simpa using h2
  have e3:y=(r.getD c 0).toNat:=by simpa using h3
  have e4:0<=r.getD c 0/\r.getD c 0<fsize wb:=by simpa using h4
  have hlt:=b8z hw e4;show gmN wb x.toNat y^^^evN wb r v=0
  have key: ∀(r:List Int) (v:List Nat) (c:Nat),c<v.length->v.getD c 0=1->(0<=r.getD c 0/\r.getD c 0<fsize wb)->(∀j,j<v.length->j≠c->r.getD j 0=0\/v.getD j 0=0)->evN wb r v=(r.getD c 0).toNat:=by
   intro r
   induction r with
   |nil=>intro v c _ _ _ _;simp [evN]
   |cons x r ih=>
    intro v c hc h1 h2 h
    cases v with
    |nil=>simp at hc
    |cons y v=>
     cases c with
     |zero=>
      have:=evN_off hw r v (fun j hj=>by simpa using h (j+1) (by simpa using hj) (by omega));have hy:y=1:=by simpa using h1
      have hx:0<=x/\x<fsize wb:=by simpa using h2
      show gmN wb x.toNat y^^^evN wb r v=_;rw [this,hy,gmN_id hw (b8z hw hx),Nat.xor_zero];simp
     |succ c=>
      have ih:=ih v c (by simpa using hc) (by simpa using h1) (by simpa using h2) (fun j hj hne=>by simpa using h (j+1) (by simpa using hj) (by omega));have h0:=h 0 (by simp) (by omega);show gmN wb x.toNat y^^^evN wb r v=_;rw [ih];rcases h0 with h0|h0
      ·have:x=0:=by simpa using h0
       rw [this];show gmN wb 0 y^^^_=_;rw [gmN_zl hw,Nat.zero_xor];simp
      ·have:y=0:=by simpa using h0
       rw [this,dlz hw,Nat.zero_xor];simp
  rw [key r v c (by simpa using hc) e2 e4 (fun j hj hne=>by simpa using h (j+1) (by simpa using hj) (by omega) (by omega)),e1,e3];show gmN wb 1 _^^^_=0;rw [gmN_idl hw hlt,Nat.xor_self]
 |x::r,y::v,i+1,c+1,hic,hc,h1,h2,h3,h4,h=>by
  have ih:=evN_two r v i c (by omega) (by simpa using hc) (by simpa using h1) (by simpa using h2) (by simpa using h3) (by simpa using h4) (fun j hj hne hnc=>by simpa using h (j+1) (by simpa using hj) (by omega) (by omega));have h0:=h 0 (by simp) (by omega) (by omega);show gmN wb x.toNat y^^^evN wb r v=0;rw [ih];rcases h0 with h0|h0
  ·have:x=0:=by simpa using h0
   rw [this];show gmN wb 0 y^^^_=_;rw [gmN_zl hw,Nat.zero_xor]
  ·have:y=0:=by simpa using h0
   rw [this,dlz hw,Nat.zero_xor]
 |x::r,y::v,i,0,hic,_,_,_,_,_,_=>by omega
end
theorem idxF_at' {α:Type} (p:α->Bool): ∀(l:List α), ¬idxF p l<0-> ∃x,l[(idxF p l).toNat]?=some x/\p x=true
 | [],h=>by simp [idxF] at h
 |y::l,h=>by
  have h1:=dOz p l;unfold idxF at h|-;by_cases hp:p y=true
  ·rw [Ya hp];exact ⟨y,by simp,hp⟩
  ·rw [Yb hp] at h|-;by_cases hn:idxF p l<0
   ·rw [Ya hn] at h;omega
   ·rw [Yb hn];obtain ⟨x,hx,hpx⟩:=idxF_at' p l hn;refine ⟨x,?_,hpx⟩;rw [show (idxF p l+1).toNat=(idxF p l).toNat+1 by omega,List.getElem?_cons_succ];exact hx
theorem evN_lt {wb:Int} (hw:wb=8\/wb=16): ∀(r:List Int) (v:List Nat),(∀x,x∈r->0<=x/\x<fsize wb)->evN wb r v<fN wb
 | [],_,_=>by have:=one_ltN hw;simp only [evN];omega
 |_::_, [],_=>by have:=one_ltN hw;simp only [evN];omega
 |x::r,y::v,h=>xor_ltN hw (gmN_ltN hw _ (b8z hw (h x (List.mem_cons_self ..)))) (evN_lt hw r v (fun z hz=>h z (List.mem_cons_of_mem _ hz)))
structure RI (wb:Int) (n:Nat) (u b:List Nat) (c:Nat) (W:List (List Int)):Prop where
 len:W.length=n
 good: ∀r,r∈W->Good wb (n+n) r
 zero: ∀r,r∈W->evN wb r (u++b)=0
 unit: ∀i r,W[i]?=some r-> ∀j,j<c->r.getD j 0=if i=j then 1 else 0
 inj: ∀v:List Nat,v.length=n->(∀x,x∈v->x<fN wb)->(∀r,r∈W->evN wb r v=0)-> ∀x,x∈v->x=0
theorem ddz {wb:Int} {L:Nat} {r:List Int} (h:Good wb L r) (j:Nat):0<=r.getD j 0/\r.getD j 0<fsize wb:=by
 rw [Zm]
 cases e:r[j]? with
 |none=>exact ⟨Int.le_refl _,by show (0:Int)<_;unfold fsize;split<;>omega⟩
 |some x=>exact h.2 x (Zo e)
theorem getD_zip (f:Int->Int->Int) (hf:f 0 0=0): ∀(r p:List Int) (j:Nat),r.length=p.length->(List.zipWith f r p).getD j 0=f (r.getD j 0) (p.getD j 0)
 | [], [],j,_=>by simp [hf]
 | [],_::_,_,h=>by simp at h
 |_::_, [],_,h=>by simp at h
 |x::r,y::p,0,_=>by simp
 |x::r,y::p,j+1,h=>by simpa using getD_zip f hf r p j (by simpa using h)
theorem eAz {a b:Int} (ha:0<=a) (hb:0<=b) (h:a.toNat=b.toNat):a=b:=by omega
section
variable {wb : Int} (hw : wb = 8 \/ wb = 16)
include hw
theorem RI.pivot {n c:Nat} {u b:List Nat} {W:List (List Int)} (h:RI wb n u b c W) (hc:c<n): ¬idxF (nzB c) (W.drop c)<0:=by
 intro hneg;have hany:=(dOz (nzB c) (W.drop c)).2.2.1 hneg
 have hz: ∀i r,W[i]?=some r->c<=i->r.getD c 0=0:=by
  intro i r hr hi;have h1:=List.any_eq_false.1 hany r (List.mem_iff_getElem?.2 ⟨i - c,by rw [List.getElem?_drop,show c+(i - c)=i by omega];exact hr⟩)
  simpa [nzB] using h1
 obtain ⟨v,hv⟩: ∃v:List Nat,v=(List.range n).map (fun j=>if j<c then ((W.getD j []).getD c 0).toNat else if j=c then 1 else 0):=⟨_,rfl⟩;have vlen:v.length=n:=by rw [hv];simp
 have vat: ∀j,j<n->v.getD j 0=if j<c then ((W.getD j []).getD c 0).toNat else if j=c then 1 else 0:=by
  intro j hj;rw [hv,Zm];simp [hj]
 have hin: ∀x,x∈v->x<fN wb:=by
  intro x hx;rw [hv] at hx;obtain ⟨j,hj,rfl⟩:=List.mem_map.1 hx;have hj:j<n:=by simpa using hj
  have p1:=one_ltN hw;split
  ·obtain ⟨r,hr⟩: ∃r,W[j]?=some r:=⟨_,Zf (by rw [h.len];exact hj)⟩;have hWr:W.getD j [] =r:=by rw [Zm,hr];rfl
   rw [hWr];exact b8z hw (ddz (h.good r (Zo hr)) c)
  ·split<;>omega
 have hall:=h.inj v vlen hin (by
  intro r hr;obtain ⟨i,hi⟩:=List.mem_iff_getElem?.1 hr;have hil:=(Zk hi).1;rw [h.len] at hil;by_cases hic:i<c
  ·refine evN_two hw r v i c hic (by omega) (by rw [h.unit i r hi i hic, Ya rfl]) (by rw [vat c hc, Yb (Nat.lt_irrefl _), Ya rfl]) (by
    have hWr:W.getD i [] =r:=by rw [Zm,hi];rfl
    rw [vat i hil,Ya hic,hWr]) (ddz (h.good r hr) c) ?_
   intro j hj hji hjc;by_cases hjl:j<c
   ·exact .inl (by rw [h.unit i r hi j hjl,Yb (Ne.symm hji)])
   ·exact .inr (by rw [vat j (by omega),Yb hjl,Yb hjc])
  ·refine evN_off hw r v ?_;intro j hj;by_cases hjl:j<c
   ·exact .inl (by rw [h.unit i r hi j hjl,Yb (by omega)])
   ·by_cases hjc:j=c
    ·exact .inl (by rw [hjc];exact hz i r hi (by omega))
    ·exact .inr (by rw [vat j (by omega),Yb hjl,Yb hjc]))
 have h1:v.getD c 0=1:=by rw [vat c hc,Yb (Nat.lt_irrefl _),Ya rfl]
 have h2:v.getD c 0=0:=by
  rw [Zm,Zf (by omega)];exact hall _ (List.getElem_mem _)
 omega
theorem RI.step {n c:Nat} {u b:List Nat} {W:List (List Int)} (h:RI wb n u b c W) (hc:c<n):RI wb n u b (c+1) (redStep wb c W c).1/\(redStep wb c W c).2=c+1:=by
 have hp:=h.pivot hw hc;have hg:=ffz hw (n+n) c W c h.good;revert hg;unfold redStep;have hat:=idxF_at' (nzB c) (W.drop c) hp;have hz:=dOz (nzB c) (W.drop c)
 generalize idxF (nzB c) (W.drop c)=z at *
 dsimp only;rw [Yb hp];obtain ⟨pr,hpr,hnz⟩:=hat;rw [List.getElem?_drop] at hpr;obtain ⟨k,hk⟩: ∃k,c+z.toNat=k:=⟨_,rfl⟩;rw [hk] at hpr|-;have hkc:c<=k:=by omega
 obtain ⟨q,hq⟩: ∃q,W[c]?=some q:=⟨_,Zf (by rw [h.len];exact hc)⟩;have hsw:=dsz W c k q pr hq hpr;have hsl:=drz W c k;have hsm:=swapL_mem W c k
 generalize swapL W c k=R at *
 have hRc:R[c]?=some pr:=by
  rw [hsw];by_cases hck:c=k
  ·rw [Ya hck];subst hck;rw [<-hq,hpr]
  ·rw [Yb hck,Ya rfl]
 have hRcD:R.getD c [] =pr:=by rw [Zm,hRc];rfl
 rw [hRcD];have hgp:=h.good pr (Zo hpr);have hpc:=ddz hgp c;have hpc0:pr.getD c 0≠0:=by simpa [nzB] using hnz
 obtain ⟨a,ha⟩: ∃a:Nat,pr.getD c 0=(a:Int):=⟨(pr.getD c 0).toNat,by omega⟩;have haN:a<fN wb:=by have:=b8z hw hpc;rw [ha] at this;simpa using this
 have hir:=e5z hw (pr.getD c 0);have hinv:=gmN_inv hw haN (by omega);rw [<-ha] at hinv;obtain ⟨i,hi⟩: ∃i,ginv wb (pr.getD c 0)=i:=⟨_,rfl⟩;rw [hi] at hir hinv|-;have hiN:=b8z hw hir;obtain ⟨p2,hp2⟩: ∃p2,List.zipWith (fun x _=>gmul wb x i) pr pr=p2:=⟨_,rfl⟩;have e2: ∀v,evN wb p2 v=gmN wb i.toNat (evN wb pr v):=fun v=>by rw [<-hp2];exact evN_scl hw hir pr v hgp.2
 have d2: ∀j,p2.getD j 0=gmul wb (pr.getD j 0) i:=fun j=>by rw [<-hp2];exact getD_zip (fun x _=>gmul wb x i) (d2z _ _) pr pr j rfl
 have hgp2:Good wb (n+n) p2:=by rw [<-hp2];exact zip_good _ hgp hgp (fun x y _ _=>bQz hw _ _)
 rw [hp2];have hset: ∀i,i≠c->(R.set c p2)[i]?=R[i]?:=fun i hi=>by rw [List.getElem?_set_ne (Ne.symm hi)]
 have hsetc:(R.set c p2)[c]?=some p2:=by rw [List.getElem?_set_self (by rw [hsl,h.len];exact hc)]
 have new: ∀i r,(clrAll wb c c p2 (R.set c p2))[i]?=some r->(i=c/\r=p2)\/(i≠c/\ ∃r0,R[i]?=some r0/\r=List.zipWith (clrF wb (r0.getD c 0)) r0 p2):=by
  intro i r hr;by_cases hic:i=c
  ·subst hic;rw [dtz _ _ _ _ _ _ p2 hsetc,Ya rfl] at hr;exact .inl ⟨rfl,by injection hr with e;exact e.symm⟩
  ·obtain ⟨r0,hr0⟩: ∃r0,R[i]?=some r0:=⟨_,Zf (by have:=(Zk hr).1;rw [csz,List.length_set] at this;exact this)⟩;rw [dtz _ _ _ _ _ _ r0 (by rw [hset i hic];exact hr0),Yb hic] at hr;exact .inr ⟨hic,r0,hr0,by injection hr with e;exact e.symm⟩
 have old: ∀i r0,R[i]?=some r0->i≠c->List.zipWith (clrF wb (r0.getD c 0)) r0 p2∈clrAll wb c c p2 (R.set c p2):=by
  intro i r0 hr0 hic;refine List.mem_iff_getElem?.2 ⟨i,?_⟩;rw [dtz _ _ _ _ _ _ r0 (by rw [hset i hic];exact hr0),Yb hic]
 have oldc:p2∈clrAll wb c c p2 (R.set c p2):=by
  refine List.mem_iff_getElem?.2 ⟨c,?_⟩;rw [dtz _ _ _ _ _ _ p2 hsetc,Ya rfl]
 have goodR: ∀i r0,R[i]?=some r0->Good wb (n+n) r0:=fun i r0 hr0=>h.good r0 (hsm r0 (Zo hr0))
 have eclr: ∀(i:Nat) (r0:List Int) (v:List Nat),R[i]?=some r0->evN wb (List.zipWith (clrF wb (r0.getD c 0)) r0 p2) v=evN wb r0 v^^^gmN wb (r0.getD c 0).toNat (evN wb p2 v):=by
  intro i r0 v hr0;have hg0:=goodR i r0 hr0;exact evN_clr hw (ddz hg0 c) r0 p2 v (hg0.1.trans hgp2.1.symm) hg0.2 hgp2.2
 have prz: ∀j,j<c->pr.getD j 0=0:=fun j hj=>by rw [h.unit k pr hpr j hj,Yb (by omega)]
 have p2z: ∀j,j<c->p2.getD j 0=0:=fun j hj=>by rw [d2,prz j hj,d2z]
 have p2c:p2.getD c 0=1:=by
  refine eAz (ddz hgp2 c).1 (by omega) ?_;rw [d2,emz hpc hir,ha]
  simpa using hinv
 have Runit: ∀i r0,R[i]?=some r0->i≠c-> ∀j,j<c->r0.getD j 0=if i=j then 1 else 0:=by
  intro i r0 hr0 hic j hj;rw [hsw] at hr0;by_cases hik:i=k
  ·rw [Ya hik] at hr0;injection hr0 with e
   subst e;rw [h.unit c q hq j hj,Yb (by omega),Yb (by omega)]
  ·rw [Yb hik,Yb hic] at hr0;exact h.unit i r0 hr0 j hj
 have Rall: ∀r,r∈W->r=pr\/ ∃i,i≠c/\R[i]?=some r:=by
  intro r hr;obtain ⟨i,hi⟩:=List.mem_iff_getElem?.1 hr;by_cases hik:i=k
  ·subst hik;rw [hpr] at hi;injection hi with e;exact .inl e.symm
  ·by_cases hic:i=c
   ·rw [hic,hq] at hi;injection hi with e
    subst e;exact .inr ⟨k,fun e=>hik (hic.trans e.symm),by rw [hsw,Ya rfl]⟩
   ·exact .inr ⟨i,hic,by rw [hsw,Yb hik,Yb hic];exact hi⟩
 intro hg;refine ⟨⟨hg.2.trans h.len,hg.1,?_,?_,?_⟩,rfl⟩
 ·intro r hr;obtain ⟨i,hi⟩:=List.mem_iff_getElem?.1 hr;have z2:evN wb p2 (u++b)=0:=by rw [e2,h.zero pr (Zo hpr),dlz hw]
  rcases new i r hi with ⟨-,rfl⟩|⟨-,r0,hr0,rfl⟩
  ·exact z2
  ·rw [eclr i r0 _ hr0,z2,dlz hw,h.zero r0 (hsm r0 (Zo hr0))];rfl
 ·intro i r hr j hj;rcases new i r hr with ⟨rfl,rfl⟩|⟨hic,r0,hr0,rfl⟩
  ·by_cases hji:j=i
   ·subst hji;rw [p2c,Ya rfl]
   ·rw [p2z j (by omega),Yb (fun e=>hji e.symm)]
  ·have hg0:=goodR i r0 hr0;have hc0:=ddz hg0 c;rw [getD_zip _ (by unfold clrF;rw [eEz];rfl) r0 p2 j (hg0.1.trans hgp2.1.symm)];have hd:=ddz hg0 j;have hd2:=ddz hgp2 j
   have key:(clrF wb (r0.getD c 0) (r0.getD j 0) (p2.getD j 0)).toNat=(r0.getD j 0).toNat^^^gmN wb (r0.getD c 0).toNat (p2.getD j 0).toNat:=by
    unfold clrF;rw [bx_toNat hw hd (bQz hw _ _),emz hc0 hd2]
   have hrng:0<=clrF wb (r0.getD c 0) (r0.getD j 0) (p2.getD j 0):=by unfold clrF;exact (eJz hw hd (bQz hw _ _)).1
   by_cases hjc:j=c
   ·subst hjc;rw [Yb hic];refine eAz hrng (by omega) ?_;rw [key,p2c];show _^^^gmN wb _ 1=0;rw [gmN_id hw (b8z hw hd),Nat.xor_self]
   ·have hjl:j<c:=by omega
    refine eAz hrng (by split<;>omega) ?_;rw [key,p2z j hjl];show _^^^gmN wb _ 0=_;rw [dlz hw,Nat.xor_zero,Runit i r0 hr0 hic j hjl]
 ·intro v hv hin hz0;refine h.inj v hv hin ?_;have z2:evN wb p2 v=0:=hz0 p2 oldc;intro r hr;rcases Rall r hr with rfl|⟨i,hic,hi⟩
  ·have h1:gmN wb a (evN wb p2 v)=0:=by rw [z2,dlz hw]
   have e3:gmN wb a i.toNat=1:=hinv;rw [e2, <-gmN_asc hw haN hiN,e3] at h1;rwa [gmN_idl hw (evN_lt hw r v hgp.2)] at h1
  ·have h1:=hz0 _ (old i r hi hic);rw [eclr i r v hi,z2,dlz hw,Nat.xor_zero] at h1;exact h1
theorem RI.all {n:Nat} {u b:List Nat} : ∀(m c:Nat) (W:List (List Int)),RI wb n u b c W->c+m=n->RI wb n u b n (redF wb m c W c).1/\(redF wb m c W c).2=n
 |0,c,W,h,e=>by
  have:c=n:=by omega
  subst this;exact ⟨h,rfl⟩
 |m+1,c,W,h,e=>by
  have hs:=h.step hw (by omega);unfold redF;rw [Yb (by rw [h.len];omega),hs.2];exact RI.all m (c+1) _ hs.1 (by omega)
end
end Go.Proofs.Xc
end
section
namespace Go.Proofs.Xc
open Go.RowKit Go.Proofs.Pw Go.Proofs.Pl Go.Proofs.Pm
attribute [local go_sem] a7z a8z bjz bkz aZz a0z a9z baz
set_option linter.unusedVariables false
set_option linter.unusedSimpArgs false
theorem cSz {wb:Int} (hw:wb=8\/wb=16) {a v:Nat} (ha:a<fN wb) (hv:v<fN wb) (h0:a≠0) (h:gmN wb a v=1):ginv wb (a:Int)=(v:Int):=by
 have hr:=e5z hw (a:Int);obtain ⟨i,hi⟩: ∃i:Nat,ginv wb (a:Int)=(i:Int):=⟨(ginv wb (a:Int)).toNat,by omega⟩;have h1:=gmN_inv hw ha h0;rw [hi,Zu] at h1;have hil:i<fN wb:=by have:=b8z hw hr;rw [hi] at this;simpa using this
 have h2:gmN wb v (gmN wb a i)=v:=by rw [h1,gmN_id hw hv]
 rw [<-gmN_asc hw hv ha,gmN_comm hw hv ha,h,gmN_idl hw hil] at h2;rw [hi,h2]
theorem g16_2:ginv 16 2=34821:=cSz (.inr rfl) (a:=2) (v:=34821) (by decide) (by decide) (by decide) (by decide+kernel)
theorem g16_3:ginv 16 3=61446:=cSz (.inr rfl) (a:=3) (v:=61446) (by decide) (by decide) (by decide) (by decide+kernel)
theorem g16_4:ginv 16 4=52231:=cSz (.inr rfl) (a:=4) (v:=52231) (by decide) (by decide) (by decide) (by decide+kernel)
def awake16.b:List Int:= [97,98,99,100,101,102,103,104,105,106,107,108,109,110,111,112,113,114,115,116,117,118,119,120]
def awake16.l:List (List Int):= [[97,98,99,100,101,102,103,104], [105,106,107,108,109,110,111,112], [113,114,115,116,117,118,119,120], [121,122,123,124,125,126,127,96], [0,0,0,0,0,0,0,235]]
theorem d6z (i:Nat) {S:Nat} {q:Int} {K M:Nat} {L:List (List Int)} (h:((parV S q K M (L.take K))[i]?==(L.drop K)[i]?)=false):verB S q K M L=false:=by
 unfold verB;refine Ze (fun he=> ?_);rw [he] at h;simp at h
theorem parV_0 (S:Nat) (q:Int) (K M:Nat) (data:List (List Int)) (c:List Int) (h:(parM q K M)[0]?=some c):(parV S q K M data)[0]?=some (dotV S (pbits q) c data):=by
 unfold parV;rw [List.getElem?_map,h];rfl
theorem awake16.m2:(parM 2 3 2)[0]?=some [34821,61446,52231] :=by
 have h:(parM 2 3 2)[0]?=some [ginv 16 2,ginv 16 3,ginv 16 4] :=rfl;rw [h,g16_2,g16_3,g16_4]
theorem awake16.m3:(parM 2 2 3)[0]?=some [61446,52231] :=by
 have h:(parM 2 2 3)[0]?=some [ginv 16 3,ginv 16 4] :=rfl;rw [h,g16_3,g16_4]
theorem awake16.v2:verB 8 2 3 2 awake16.l=false:=d6z 0 (by rw [parV_0 8 2 3 2 _ _ awake16.m2];kernel_rfl)
theorem awake16.v3:verB 8 2 2 3 awake16.l=false:=d6z 0 (by rw [parV_0 8 2 2 3 _ _ awake16.m3];kernel_rfl)
theorem awake16.p1:passB 8 1 3 2 awake16.l=true:=by kernel_rfl
theorem awake16.p5:verB 8 5 3 2 awake16.l=false:=d6z 1 kr_
theorem awake16.p6:verB 8 6 3 2 awake16.l=false:=d6z 1 kr_
theorem awake16.q1:verB 8 1 2 3 awake16.l=false:=d6z 0 kr_
theorem awake16.q5:verB 8 5 2 3 awake16.l=false:=d6z 0 kr_
theorem awake16.q6:verB 8 6 2 3 awake16.l=false:=d6z 0 kr_
theorem dIz {S:Nat} {q:Int} {K M:Nat} {L:List (List Int)} (h:verB S q K M L=false):passB S q K M L=false:=by
 unfold passB;rw [h,Bool.and_false,Bool.and_false]
theorem awake16.len: ∀r,r∈awake16.l->r.length=8:=by decide
theorem awake16.t3:Ev (fun k=>b3z.f k awake16.l 3) [1] :=by
 have h:=trial_ev2 3 2 8 awake16.l rfl (by decide) (by decide) awake16.len (by decide)
 have e:(all6.filter fun q=>passB 8 q 3 2 awake16.l)= [1] :=by
  unfold all6;simp only [List.filter_cons,awake16.p1,dIz awake16.v2,dIz awake16.p5,dIz awake16.p6,show passB 8 3 3 2 awake16.l=false from rfl,show passB 8 4 3 2 awake16.l=false from rfl,List.filter_nil];rfl
 rw [e] at h;exact h
theorem awake16.t2:Ev (fun k=>b3z.f k awake16.l 2) [] :=by
 have h:=trial_ev2 2 3 8 awake16.l rfl (by decide) (by decide) awake16.len (by decide)
 have e:(all6.filter fun q=>passB 8 q 2 3 awake16.l)= [] :=by
  unfold all6;simp only [List.filter_cons,dIz awake16.q1,dIz awake16.v3,dIz awake16.q5,dIz awake16.q6,show passB 8 3 2 3 awake16.l=false from rfl,show passB 8 4 2 3 awake16.l=false from rfl,List.filter_nil];rfl
 rw [e] at h;exact h
theorem awake16.t1:Ev (fun k=>b3z.f k [[97], [97]] 1) [5,6] :=by
 have h:=trial_ev2 1 1 1 [[97], [97]] rfl (by decide) (by decide) (by decide) (by decide)
 have e:(all6.filter fun q=>passB 1 q 1 1 [[97], [97]])= [5,6] :=by
  unfold all6;simp only [List.filter_cons,show passB 1 1 1 1 [[97], [97]] =false from rfl,show passB 1 2 1 1 [[97], [97]] =false from rfl,show passB 1 3 1 1 [[97], [97]] =false from rfl,show passB 1 4 1 1 [[97], [97]] =false from rfl,show passB 1 5 1 1 [[97], [97]] =true by kernel_rfl,show passB 1 6 1 1 [[97], [97]] =true by kernel_rfl,List.filter_nil];rfl
 rw [e] at h;exact h
theorem awake16.k3:Ev (fun k=>trial_Pick.f k awake16.l 3) (1,0):=Ev.bind awake16.t3 (Ev.congr (fun _=>rfl) (Ev.now _))
theorem awake16.k1:Ev (fun k=>trial_Pick.f k [[97], [97]] 1) (0,6):=Ev.bind awake16.t1 (Ev.congr (fun _=>rfl) (Ev.now _))
theorem awake16.enc:codec_Encode.f 199 1 3 2 awake16.b=some (awake16.l,0):=by kernel_rfl
theorem i16_1:ginv 16 1=1:=cSz (.inr rfl) (a:=1) (v:=1) (by decide) (by decide) (by decide) (by decide+kernel)
theorem i16_2:ginv 16 2=34821:=cSz (.inr rfl) (a:=2) (v:=34821) (by decide) (by decide) (by decide) (by decide+kernel)
theorem i16_3:ginv 16 3=61446:=cSz (.inr rfl) (a:=3) (v:=61446) (by decide) (by decide) (by decide) (by decide+kernel)
theorem i16_4:ginv 16 4=52231:=cSz (.inr rfl) (a:=4) (v:=52231) (by decide) (by decide) (by decide) (by decide+kernel)
theorem i16_5:ginv 16 5=20482:=cSz (.inr rfl) (a:=5) (v:=20482) (by decide) (by decide) (by decide) (by decide+kernel)
theorem i16_6:ginv 16 6=30723:=cSz (.inr rfl) (a:=6) (v:=30723) (by decide) (by decide) (by decide) (by decide+kernel)
theorem i16_7:ginv 16 7=27502:=cSz (.inr rfl) (a:=7) (v:=27502) (by decide) (by decide) (by decide) (by decide+kernel)
theorem i16_8:ginv 16 8=60934:=cSz (.inr rfl) (a:=8) (v:=60934) (by decide) (by decide) (by decide) (by decide+kernel)
theorem i16_9:ginv 16 9=9946:=cSz (.inr rfl) (a:=9) (v:=9946) (by decide) (by decide) (by decide) (by decide+kernel)
theorem i16_10:ginv 16 10=10241:=cSz (.inr rfl) (a:=10) (v:=10241) (by decide) (by decide) (by decide) (by decide+kernel)
theorem i16_11:ginv 16 11=60305:=cSz (.inr rfl) (a:=11) (v:=60305) (by decide) (by decide) (by decide) (by decide+kernel)
def gtab:Int->Int:=fun x=>if x=1 then 1 else if x=2 then 34821 else if x=3 then 61446 else if x=4 then 52231 else if x=5 then 20482 else if x=6 then 30723 else if x=7 then 27502 else if x=8 then 60934 else if x=9 then 9946 else if x=10 then 10241 else if x=11 then 60305 else 0
theorem gtab_inv (x:Int) (h0:1<=x) (h1:x<12):ginv 16 x=gtab x:=by
 have h:x=1\/x=2\/x=3\/x=4\/x=5\/x=6\/x=7\/x=8\/x=9\/x=10\/x=11:=by omega
 rcases h with rfl|rfl|rfl|rfl|rfl|rfl|rfl|rfl|rfl|rfl|rfl
 ·exact i16_1
 ·exact i16_2
 ·exact i16_3
 ·exact i16_4
 ·exact i16_5
 ·exact i16_6
 ·exact i16_7
 ·exact i16_8
 ·exact i16_9
 ·exact i16_10
 ·exact i16_11
theorem xor_small: ∀m:Nat,m<5-> ∀a:Nat,a<m-> ∀b:Nat,b<8->1<=Go.bits .xor .i64 ((0+a:Nat):Int) ((m+b:Nat):Int)/\Go.bits .xor .i64 ((0+a:Nat):Int) ((m+b:Nat):Int)<12:=by decide+kernel
def tabM (k m:Nat):List (List Int):=(runL 0 m).map fun a=>(runL m k).map fun b=>gtab (Go.bits .xor .i64 a b)
theorem par2_tab (k m:Nat) (hk:k<9) (hm:m<5):parM 2 k m=tabM k m:=by
 show cauM 16 (runL 0 m) (runL m k)=tabM k m;unfold cauM tabM runL;refine List.map_congr_left (fun a ha=>List.map_congr_left (fun b hb=> ?_));obtain ⟨i,hi,rfl⟩:=List.mem_map.1 ha;obtain ⟨j,hj,rfl⟩:=List.mem_map.1 hb;have:=xor_small m hm i (by simpa using hi) j (by have:=List.mem_range.1 hj;omega);exact gtab_inv _ this.1 this.2
theorem rp2_1: ∀m,m<4->bbz.f 3000 16 69643 1 ((m+1:Nat):Int)=some (tabM 1 (m+1),true):=by decide+kernel
theorem rp2_2: ∀m,m<4->bbz.f 3000 16 69643 2 ((m+1:Nat):Int)=some (tabM 2 (m+1),true):=by decide+kernel
theorem rp2_3: ∀m,m<4->bbz.f 3000 16 69643 3 ((m+1:Nat):Int)=some (tabM 3 (m+1),true):=by decide+kernel
theorem rp2_4: ∀m,m<4->bbz.f 3000 16 69643 4 ((m+1:Nat):Int)=some (tabM 4 (m+1),true):=by decide+kernel
theorem rp2_5: ∀m,m<4->bbz.f 3000 16 69643 5 ((m+1:Nat):Int)=some (tabM 5 (m+1),true):=by decide+kernel
theorem rp2_6: ∀m,m<4->bbz.f 3000 16 69643 6 ((m+1:Nat):Int)=some (tabM 6 (m+1),true):=by decide+kernel
theorem rp2_7: ∀m,m<4->bbz.f 3000 16 69643 7 ((m+1:Nat):Int)=some (tabM 7 (m+1),true):=by decide+kernel
theorem rp2_8: ∀m,m<4->bbz.f 3000 16 69643 8 ((m+1:Nat):Int)=some (tabM 8 (m+1),true):=by decide+kernel
theorem rpar_2 (K M:Nat) (h1:1<=K) (h2:K<=8) (h3:1<=M) (h4:M<=4):bbz.f 3000 16 69643 (K:Int) (M:Int)=some (tabM K M,true):=by
 obtain ⟨m,rfl⟩: ∃m,M=m+1:=⟨M - 1,by omega⟩;have hk:K=1\/K=2\/K=3\/K=4\/K=5\/K=6\/K=7\/K=8:=by omega
 rcases hk with rfl|rfl|rfl|rfl|rfl|rfl|rfl|rfl
 ·exact rp2_1 m (by omega)
 ·exact rp2_2 m (by omega)
 ·exact rp2_3 m (by omega)
 ·exact rp2_4 m (by omega)
 ·exact rp2_5 m (by omega)
 ·exact rp2_6 m (by omega)
 ·exact rp2_7 m (by omega)
 ·exact rp2_8 m (by omega)
theorem rp3_1: ∀m,m<3->apz.f 3000 8 285 1 ((m+1:Nat):Int)=some (isalM 8 (m+1) 1,true):=by decide+kernel
theorem rp3_2: ∀m,m<3->apz.f 3000 8 285 2 ((m+1:Nat):Int)=some (isalM 8 (m+1) 2,true):=by decide+kernel
theorem rp3_3: ∀m,m<3->apz.f 3000 8 285 3 ((m+1:Nat):Int)=some (isalM 8 (m+1) 3,true):=by decide+kernel
theorem rp3_4: ∀m,m<3->apz.f 3000 8 285 4 ((m+1:Nat):Int)=some (isalM 8 (m+1) 4,true):=by decide+kernel
theorem rp3_5: ∀m,m<3->apz.f 3000 8 285 5 ((m+1:Nat):Int)=some (isalM 8 (m+1) 5,true):=by decide+kernel
theorem rp3_6: ∀m,m<3->apz.f 3000 8 285 6 ((m+1:Nat):Int)=some (isalM 8 (m+1) 6,true):=by decide+kernel
theorem rp3_7: ∀m,m<3->apz.f 3000 8 285 7 ((m+1:Nat):Int)=some (isalM 8 (m+1) 7,true):=by decide+kernel
theorem rp3_8: ∀m,m<3->apz.f 3000 8 285 8 ((m+1:Nat):Int)=some (isalM 8 (m+1) 8,true):=by decide+kernel
theorem rpar_3 (K M:Nat) (h1:1<=K) (h2:K<=8) (h3:1<=M) (h4:M<=3):apz.f 3000 8 285 (K:Int) (M:Int)=some (isalM 8 M K,true):=by
 obtain ⟨m,rfl⟩: ∃m,M=m+1:=⟨M - 1,by omega⟩;have hk:K=1\/K=2\/K=3\/K=4\/K=5\/K=6\/K=7\/K=8:=by omega
 rcases hk with rfl|rfl|rfl|rfl|rfl|rfl|rfl|rfl
 ·exact rp3_1 m (by omega)
 ·exact rp3_2 m (by omega)
 ·exact rp3_3 m (by omega)
 ·exact rp3_4 m (by omega)
 ·exact rp3_5 m (by omega)
 ·exact rp3_6 m (by omega)
 ·exact rp3_7 m (by omega)
 ·exact rp3_8 m (by omega)
theorem rp4_1: ∀m,m<4->bcz.f 3000 8 285 1 ((m+1:Nat):Int)=some (cauM 8 (runL 1 (m+1)) (runL 0 1),true):=by decide+kernel
theorem rp4_2: ∀m,m<4->bcz.f 3000 8 285 2 ((m+1:Nat):Int)=some (cauM 8 (runL 2 (m+1)) (runL 0 2),true):=by decide+kernel
theorem rp4_3: ∀m,m<4->bcz.f 3000 8 285 3 ((m+1:Nat):Int)=some (cauM 8 (runL 3 (m+1)) (runL 0 3),true):=by decide+kernel
theorem rp4_4: ∀m,m<4->bcz.f 3000 8 285 4 ((m+1:Nat):Int)=some (cauM 8 (runL 4 (m+1)) (runL 0 4),true):=by decide+kernel
theorem rp4_5: ∀m,m<4->bcz.f 3000 8 285 5 ((m+1:Nat):Int)=some (cauM 8 (runL 5 (m+1)) (runL 0 5),true):=by decide+kernel
theorem rp4_6: ∀m,m<4->bcz.f 3000 8 285 6 ((m+1:Nat):Int)=some (cauM 8 (runL 6 (m+1)) (runL 0 6),true):=by decide+kernel
theorem rp4_7: ∀m,m<4->bcz.f 3000 8 285 7 ((m+1:Nat):Int)=some (cauM 8 (runL 7 (m+1)) (runL 0 7),true):=by decide+kernel
theorem rp4_8: ∀m,m<4->bcz.f 3000 8 285 8 ((m+1:Nat):Int)=some (cauM 8 (runL 8 (m+1)) (runL 0 8),true):=by decide+kernel
theorem rpar_4 (K M:Nat) (h1:1<=K) (h2:K<=8) (h3:1<=M) (h4:M<=4):bcz.f 3000 8 285 (K:Int) (M:Int)=some (cauM 8 (runL K M) (runL 0 K),true):=by
 obtain ⟨m,rfl⟩: ∃m,M=m+1:=⟨M - 1,by omega⟩;have hk:K=1\/K=2\/K=3\/K=4\/K=5\/K=6\/K=7\/K=8:=by omega
 rcases hk with rfl|rfl|rfl|rfl|rfl|rfl|rfl|rfl
 ·exact rp4_1 m (by omega)
 ·exact rp4_2 m (by omega)
 ·exact rp4_3 m (by omega)
 ·exact rp4_4 m (by omega)
 ·exact rp4_5 m (by omega)
 ·exact rp4_6 m (by omega)
 ·exact rp4_7 m (by omega)
 ·exact rp4_8 m (by omega)
theorem rp5_1: ∀m,m<4->a1z.f 3000 8 285 1 ((m+1:Nat):Int)=some (sysM 8 1 (m+1),true):=by decide+kernel
theorem rp5_2: ∀m,m<4->a1z.f 3000 8 285 2 ((m+1:Nat):Int)=some (sysM 8 2 (m+1),true):=by decide+kernel
theorem rp5_3: ∀m,m<4->a1z.f 3000 8 285 3 ((m+1:Nat):Int)=some (sysM 8 3 (m+1),true):=by decide+kernel
theorem rp5_4: ∀m,m<4->a1z.f 3000 8 285 4 ((m+1:Nat):Int)=some (sysM 8 4 (m+1),true):=by decide+kernel
theorem rp5_5: ∀m,m<4->a1z.f 3000 8 285 5 ((m+1:Nat):Int)=some (sysM 8 5 (m+1),true):=by decide+kernel
theorem rp5_6: ∀m,m<4->a1z.f 3000 8 285 6 ((m+1:Nat):Int)=some (sysM 8 6 (m+1),true):=by decide+kernel
theorem rp5_7: ∀m,m<4->a1z.f 3000 8 285 7 ((m+1:Nat):Int)=some (sysM 8 7 (m+1),true):=by decide+kernel
theorem rp5_8: ∀m,m<4->a1z.f 3000 8 285 8 ((m+1:Nat):Int)=some (sysM 8 8 (m+1),true):=by decide+kernel
theorem rpar_5 (K M:Nat) (h1:1<=K) (h2:K<=8) (h3:1<=M) (h4:M<=4):a1z.f 3000 8 285 (K:Int) (M:Int)=some (sysM 8 K M,true):=by
 obtain ⟨m,rfl⟩: ∃m,M=m+1:=⟨M - 1,by omega⟩;have hk:K=1\/K=2\/K=3\/K=4\/K=5\/K=6\/K=7\/K=8:=by omega
 rcases hk with rfl|rfl|rfl|rfl|rfl|rfl|rfl|rfl
 ·exact rp5_1 m (by omega)
 ·exact rp5_2 m (by omega)
 ·exact rp5_3 m (by omega)
 ·exact rp5_4 m (by omega)
 ·exact rp5_5 m (by omega)
 ·exact rp5_6 m (by omega)
 ·exact rp5_7 m (by omega)
 ·exact rp5_8 m (by omega)
theorem rof_eq (q:Int):a4z.f q=bmz.f q:=by
 unfold a4z.f bmz.f;rfl
theorem esz (q k m:Int):biz.f q k m=aDz.f q k m:=by
 unfold biz.f aDz.f;rw [rof_eq]
theorem may_m3 {k m:Int} (h:aDz.f 3 k m=some true):m<=3:=by
 have hm:=cvz h;unfold aDz.f at h;rw [show bmz.f 3=some ((⟨#[105,114]⟩:ByteArray),8,285,105,3,true) from rfl,Zl] at h;dsimp only at h;rw [Ya rfl,Ya (by omega),Ya (by omega),Ya (by omega)] at h;exact Zc (Zn h)
theorem rof_ev (q:Int) (h1:1<=q) (h2:q<=6): ∃(t:ByteArray) (l mm:Int),a4z.f q=some (t,pbits q,fpoly (pbits q),l,mm,true):=by
 have hq:q=1\/q=2\/q=3\/q=4\/q=5\/q=6:=by omega
 rcases hq with rfl|rfl|rfl|rfl|rfl|rfl<;>exact ⟨_,_,_,rfl⟩
theorem rpar_ev (q:Int) (K M:Nat) (hmay:aDz.f q (K:Int) (M:Int)=some true):Ev (fun k=>bqz.f k q (K:Int) (M:Int)) (parM q K M,true):=by
 obtain ⟨p1,p2,k1,k2,m1,m2⟩:=cvz hmay;have hgd:=dgz q K M (by omega) (by omega) (by omega) (by omega);have hq:q=1\/q=2\/q=3\/q=4\/q=5\/q=6:=by omega
 have hM3:q=3->M<=3:=fun e=>by rw [e] at hmay;have:=may_m3 hmay;omega
 refine Ev.of (fun k=>bqz.mono _ _ _ k) (k:=3000) ?_;unfold bqz.f;rw [esz,hmay,Zl,Ya rfl];rcases hq with rfl|rfl|rfl|rfl|rfl|rfl
 ·rw [show a4z.f 1=some ((⟨#[106,118]⟩:ByteArray),8,285,106,4,true) from rfl,Zl,Ya rfl];dsimp only;rw [rpar_1 K M (by omega) (by omega) (by omega) (by omega),Zl];rfl
 ·rw [show a4z.f 2=some ((⟨#[106,99]⟩:ByteArray),16,69643,106,4,true) from rfl,Zl,Yb (by decide),Ya rfl];dsimp only;rw [rpar_2 K M (by omega) (by omega) (by omega) (by omega),Zl,par2_tab K M (by omega) (by omega)]
 ·rw [show a4z.f 3=some ((⟨#[105,114]⟩:ByteArray),8,285,105,3,true) from rfl,Zl,Yb (by decide),Yb (by decide),Ya rfl];dsimp only;rw [rpar_3 K M (by omega) (by omega) (by omega) (hM3 rfl),Zl];rfl
 ·rw [show a4z.f 4=some ((⟨#[105,99]⟩:ByteArray),8,285,105,4,true) from rfl,Zl,Yb (by decide),Yb (by decide),Yb (by decide),Ya rfl];dsimp only;rw [rpar_4 K M (by omega) (by omega) (by omega) (by omega),Zl];rfl
 all_goals
  have hsy:((sysM 8 K M).drop K).length=M:=hgd.2;rw [List.length_drop] at hsy
 ·rw [show a4z.f 5=some ((⟨#[98,98]⟩:ByteArray),8,285,98,4,true) from rfl,Zl,Yb (by decide),Yb (by decide),Yb (by decide),Yb (by decide)];dsimp only;rw [rpar_5 K M (by omega) (by omega) (by omega) (by omega),Zl,Ya (by omega),Ya (by dsimp only;omega),Zu];rfl
 ·rw [show a4z.f 6=some ((⟨#[107,112]⟩:ByteArray),8,285,112,4,true) from rfl,Zl,Yb (by decide),Yb (by decide),Yb (by decide),Yb (by decide)];dsimp only;rw [rpar_5 K M (by omega) (by omega) (by omega) (by omega),Zl,Ya (by omega),Ya (by dsimp only;omega),Zu];rfl
def evenP (wb:Int) (L:Nat) (r:List Int):Bool:=r.length==L&&evB wb r
theorem rd1_at (l:List (List Int)) (i:Nat) (r:List Int) (h:l[i]?=some r):rd_L1 l (i:Int)=r:=by
 unfold rd_L1;rw [Zu,Zm,h];rfl
theorem reven_l (wb : Int) (hw : wb = 8 \/ wb = 16) (L : Nat) (l : List (List Int)) (r0 : List Int) (h0 : l[0]? = some r0) (hL : r0.length = L) (hl : l.length <= 1000000) (hr : ∀ r, r ∈ l -> r.length <= 1000000) (t : ByteArray) (b c d : Int) :
  ∀(m i:Nat),i+m=l.length->Ev (fun k=>a5z.l0 k l (i:Int) t wb b c d) ((l.drop i).all (evenP wb L)):=by
 intro m
 induction m with
 |zero=>
  intro i hi;refine Ev.step (f:=fun _=>some true) (fun k=> ?_) ?_
  ·rw [a5z.l0,Yb (by omega)]
  ·rw [List.drop_of_length_le (by omega)];exact Ev.now _
 |succ m ih=>
  intro i hi;obtain ⟨r,hri⟩: ∃r,l[i]?=some r:=⟨_,Zf (by omega)⟩;have hrl:=hr r (Zo hri);have h0':rd_L1 l 0=r0:=rd1_at l 0 r0 h0
  have hd:l.drop i=r::l.drop (i+1):=by
   rw [List.drop_eq_getElem_cons (by omega)];congr 1
   exact Zn ((Zf (by omega)).symm.trans hri)
  rw [hd,List.all_cons];by_cases c1:r.length=L
  ·by_cases c2:evB wb r=true
   ·rw [show evenP wb L r=true by unfold evenP;rw [c2,c1];simp,Bool.true_and];refine Ev.step (fun k=> ?_) (ih (i+1) (by omega))
    have c3:Int.tmod (8*(r.length:Int)) wb=0:=by
     rw [Int.tmod_eq_emod_of_nonneg (by omega)];unfold evB at c2;have c2:=eq_of_beq c2;rcases hw with rfl|rfl
     ·omega
     ·rw [show wN 16=2 from rfl] at c2;omega
    rw [a5z.l0,Ya (by omega),Ya (by omega),Ya (by omega),rd1_at l i r hri,h0',Ya (by omega),Yb (by omega),w64 (by omega) (by omega),Ya c3,w64 (by omega) (by omega),show ((i:Int)+1)=((i+1:Nat):Int) by omega]
   ·rw [show evenP wb L r=false by unfold evenP;rw [Bool.eq_false_iff.2 c2];simp,Bool.false_and];refine Ev.step (f:=fun _=>some false) (fun k=> ?_) (Ev.now _)
    have c3: ¬Int.tmod (8*(r.length:Int)) wb=0:=by
     rw [Int.tmod_eq_emod_of_nonneg (by omega)];intro h;apply c2
     unfold evB;rcases hw with rfl|rfl
     ·rw [show wN 8=1 from rfl,Nat.mod_one];rfl
     ·rw [show wN 16=2 from rfl,beq_iff_eq];omega
    rw [a5z.l0,Ya (by omega),Ya (by omega),Ya (by omega),rd1_at l i r hri,h0',Ya (by omega),Yb (by omega),w64 (by omega) (by omega),Yb c3]
  ·rw [show evenP wb L r=false by unfold evenP;rw [beq_eq_false_iff_ne.2 c1];simp,Bool.false_and];refine Ev.step (f:=fun _=>some false) (fun k=> ?_) (Ev.now _);rw [a5z.l0,Ya (by omega),Ya (by omega),Ya (by omega),rd1_at l i r hri,h0',Yb (by omega)]
theorem reven_ev (q : Int) (h1 : 1 <= q) (h2 : q <= 6) (x y : Int) (l : List (List Int)) (L : Nat) (r0 : List Int) (h0 : l[0]? = some r0) (hL : r0.length = L) (hl : l.length <= 1000000) (hr : ∀ r, r ∈ l -> r.length <= 1000000) :
  Ev (fun k=>a5z.f k q x y l) (l.all (evenP (pbits q) L)):=by
 obtain ⟨t,b,c,he⟩:=rof_ev q h1 h2;refine Ev.congr (fun k=> ?_) (reven_l (pbits q) (djz q) L l r0 h0 hL hl hr t (fpoly (pbits q)) b c l.length 0 (by omega));unfold a5z.f;rw [he,Zl];rfl
theorem bytes_nat (l:List (List Int)) (hb: ∀r,r∈l-> ∀x,x∈r->0<=x/\x<=255): ∃P:List (List Nat),l=P.map castN/\ ∀r,r∈P-> ∀x,x∈r->x<256:=by
 induction l with
 |nil=>exact ⟨[],rfl,fun r h=>by simp at h⟩
 |cons a l ih=>
  obtain ⟨P,e,h⟩:=ih (fun r hr=>hb r (List.mem_cons_of_mem _ hr));obtain ⟨n,hn,hn2⟩:=isB_of a (hb a (List.mem_cons_self ..));refine ⟨n::P,?_,fun r hr=> ?_⟩
  ·rw [e,hn];rfl
  ·rcases List.mem_cons.1 hr with rfl|hr
   ·exact hn2
   ·exact h r hr
theorem dLz: ∀(S:Nat) (a:List Nat),a.length=S->xorN (List.replicate S 0) a=a
 |0, [],_=>rfl
 |0,_::_,h=>by simp at h
 |S+1, [],h=>by simp at h
 |S+1,x::a,h=>by
  have ih:=dLz S a (by simpa using h);show (0^^^x)::xorN (List.replicate S 0) a=x::a;rw [ih,Nat.zero_xor]
theorem add_nat (S:Nat) (hS:S<=1000000) (a b:List Nat) (ha:a.length=S/\ ∀x,x∈a->x<256) (hb:b.length=S/\ ∀x,x∈b->x<256):Ev (fun k=>cCz.f k (castN a) (castN b)) (castN (xorN a b),0):=by
 have hla:(castN a).length=S:=by simp [castN,ha.1]
 have hlb:(castN b).length=S:=by simp [castN,hb.1]
 have h:=sum_ev [castN a,castN b] S (by omega) (by simp) (by simp) (fun r hr=>by
  rcases List.mem_cons.1 hr with rfl|hr
  ·exact hla
  ·rcases List.mem_cons.1 hr with rfl|hr
   ·exact hlb
   ·simp at hr)
 have e:sumB S [castN a,castN b] =castN (xorN a b):=by
  show xorB (xorB (List.replicate S 0) (castN a)) (castN b)=_;have e0:List.replicate S (0:Int)=castN (List.replicate S 0):=by simp [castN]
  have h1:xorB (castN (List.replicate S 0)) (castN a)=castN (xorN (List.replicate S 0) a):=eyz _ _ (fun x hx=>by have:=List.eq_of_mem_replicate hx;omega) ha.2;have h2:xorB (castN a) (castN b)=castN (xorN a b):=eyz _ _ ha.2 hb.2;rw [e0,h1,dLz S a ha.1,h2]
 rw [e] at h;exact Ev.congr (fun k=>rfl) (Ev.bind h (Ev.now _))
theorem upd_data (k:Nat) (wb:Int) (n i:Nat) (M:List (List Int)) (d:List Int) (rest:List (List Int)): ∀(D:List (List Int)) (j:Nat) (acc:List (List Int)),j+D.length=n->(∀r,r∈D->r.length<=1000000)->aIz.l k wb n i M d j (D++rest) acc=aIz.l k wb n i M d n rest (acc++D)
 | [],j,acc,h,_=>by
  obtain rfl:j=n:=by simpa using h
  simp
 |r::D,j,acc,h,hr=>by
  have hl:j<n:=by simp at h;omega
  rw [List.cons_append,aIz.l,Ya hl,Ya (hr r (List.mem_cons_self ..)),upd_data k wb n i M d rest D (j+1) (acc++ [r]) (by simp at h;omega) (fun q hq=>hr q (List.mem_cons_of_mem _ hq)),List.append_assoc];rfl
def upr (wb:Int) (i:Nat) (M:List (List Int)) (d:List Nat):Nat->List (List Nat)->List (List Int)
 |_, [] => []
 |t,s::ss=>castN (xorN s (mulN wb ((M.getD t []).getD i 0) d))::upr wb i M d (t+1) ss
theorem upr_len (wb:Int) (i:Nat) (M:List (List Int)) (d:List Nat): ∀(ss:List (List Nat)) (t:Nat),(upr wb i M d t ss).length=ss.length
 | [],_=>rfl
 |s::ss,t=>by unfold upr;rw [List.length_cons,List.length_cons,upr_len wb i M d ss]
theorem upr_byte {wb:Int} (i:Nat) (M:List (List Int)) (d:List Nat): ∀(ss:List (List Nat)) (t:Nat),(∀r,r∈ss-> ∀z,z∈r->z<256)-> ∀r,r∈upr wb i M d t ss-> ∀z,z∈r->0<=z/\z<=255
 | [],_,_,r,hr=>by simp [upr] at hr
 |s::ss,t,h,r,hr=>by
  unfold upr at hr;rcases List.mem_cons.1 hr with rfl|hr
  ·intro z hz;unfold castN at hz;obtain ⟨w,hw,rfl⟩:=List.mem_map.1 hz;have:=xorN_lt (w:=8) s (mulN wb ((M.getD t []).getD i 0) d) (h s (List.mem_cons_self ..)) (mulN_lt _ _ _) w hw;omega
  ·exact upr_byte i M d ss (t+1) (fun q hq=>h q (List.mem_cons_of_mem _ hq)) r hr
theorem upr_codec {wb : Int} (hw : wb = 8 \/ wb = 16) (S n i : Nat) (hS : S % wN wb = 0) (hS2 : S <= 1000000) (M : List (List Int)) (d : List Nat) (hd : d.length = S /\ ∀ z, z ∈ d -> z < 256) :
  ∀(ss:List (List Nat)) (t:Nat) (acc:List (List Int)),(∀r,r∈ss->r.length=S/\ ∀z,z∈r->z<256)->Ev (fun k=>aIz.l k wb n i M (castN d) (n+t) (ss.map castN) acc) (acc++upr wb i M d t ss)
 | [],t,acc,_=>by
  refine Ev.congr (fun k=> ?_) (Ev.now _);simp [aIz.l,upr]
 |s::ss,t,acc,h=>by
  have hs:=h s (List.mem_cons_self ..);obtain ⟨x,hx⟩: ∃x,(M.getD t []).getD i 0=x:=⟨_,rfl⟩;have hml:(mulN wb x d).length=S:=by rw [mulN_len hw _ _ hd.2 (by rw [hd.1];exact hS)];exact hd.1
  have hadd:=add_nat S hS2 s (mulN wb x d) hs ⟨hml,mulN_lt _ _ _⟩;have ih:=upr_codec hw S n i hS hS2 M d hd ss (t+1) (acc++ [castN (xorN s (mulN wb x d))]) (fun r hr=>h r (List.mem_cons_of_mem _ hr));refine Ev.congr (f:=fun k=>(cCz.f k (castN s) (castN (mulN wb x d))).bind fun u=>if u.1.length<=1000000 then aIz.l k wb n i M (castN d) (n+t+1) (ss.map castN) (acc++ [u.1]) else none) (fun k=> ?_) ?_
  ·rw [List.map_cons,aIz.l,Yb (by omega),Nat.add_sub_cancel_left,hx,mulB_nat hw x d hd.2 (by rw [hd.1];exact hS)]
  ·refine Ev.bind hadd ?_;have hol:(castN (xorN s (mulN wb x d))).length<=1000000:=by rw [bMz,xorN_len2 hs.1 hml];exact hS2
   refine Ev.congr (fun k=>by rw [Ya hol]) ?_;unfold upr;rw [hx];have e: ∀(y:List Int) (z:List (List Int)),acc++y::z=(acc++ [y])++z:=fun y z=>by rw [List.append_assoc];rfl
   rw [e (castN (xorN s (mulN wb x d))) (upr wb i M d (t+1) ss)];exact ih
theorem set_mid (A B:List (List Int)) (s v:List Int) (j:Nat) (hj:A.length=j):(A++s::B).set j v=(A++ [v])++B:=by
 rw [List.set_append_right _ _ (by omega),hj,Nat.sub_self,Zh,List.append_assoc];rfl
theorem wn1 {t:Nat} (h:t<=1000):wrap64 ((t:Int)+1)=((t+1:Nat):Int):=by unfold wrap64;omega
theorem wn2 {a b:Nat} (h:a+b<=1000):wrap64 ((a:Int)+(b:Int))=((a+b:Nat):Int):=by unfold wrap64;omega
theorem upr_ref (q : Int) (K m S i : Nat) (hiK : i < K) (hK : K <= 100) (hS : S % wN (pbits q) = 0) (hS2 : S <= 1000000) (M : List (List Int)) (hMi : ∀ c, c ∈ M -> c.length = K /\ ∀ x, x ∈ c -> inF (pbits q) x = true) (hMl : M.length = m) (d : List Nat) (hd : d.length = S /\ ∀ z, z ∈ d -> z < 256) (b : List Int) (l : List (List Int)) (D : List (List Int)) (hD : D.length = K) (hm : m <= 100) (t0 : ByteArray) (x1 x2 : Int) :
  ∀(ss:List (List Nat)) (t:Nat) (A:List (List Int)),t+ss.length=m->A.length=K+t->(∀r,r∈ss->r.length=S/\ ∀z,z∈r->z<256)->(∀j,j<ss.length->l[K+t+j]?=(ss.map castN)[j]?)->l.length=K+m->
   Ev (fun k=>amz.l0 k l (i:Int) M (castN d) ((A++ss.map castN).set i b) (t:Int) q (K:Int) (m:Int) t0 (pbits q) (fpoly (pbits q)) x1 x2) ((A++upr (pbits q) i M d t ss).set i b,0)
 | [],t,A,h1,h2,_,_,hll=>by
  refine Ev.step (f:=fun _=>some ((A++upr (pbits q) i M d t []).set i b,0)) (fun k=> ?_) (Ev.now _);have h1:t=m:=by simpa using h1
  rw [amz.l0,Yb (by omega)];rfl
 |s::ss,t,A,h1,h2,h3,h4,hll=>by
  have hs:=h3 s (List.mem_cons_self ..);rw [List.length_cons] at h1 h4;obtain ⟨c,hc⟩: ∃c,M[t]?=some c:=⟨_,Zf (by omega)⟩;have hcM:=hMi c (Zo hc);obtain ⟨x,hx⟩: ∃x,c[i]?=some x:=⟨_,Zf (by omega)⟩;have hxin:=hcM.2 x (Zo hx);have e1:rd_L4 M (t:Int)=c:=by unfold rd_L4;rw [Zu,Zm,hc];rfl
  have e2:rd c (i:Int)=x:=by unfold rd;rw [Zu,Zm,hx];rfl
  have hlk:l[K+t]?=some (castN s):=by have:=h4 0 (by omega);simpa using this
  have e3:rd_L1 l ((K+t:Nat):Int)=castN s:=rd1_at l (K+t) _ hlk;have e4:(M.getD t []).getD i 0=x:=by rw [Zm (l:=M),hc,Option.getD_some,Zm,hx];rfl
  have hml:(mulN (pbits q) x d).length=S:=by rw [mulN_len (djz q) _ _ hd.2 (by rw [hd.1];exact hS)];exact hd.1
  have hmul:=rmul3_ev (djz q) x hxin d hd.2 (by omega) (by rw [hd.1];exact hS);have hadd:=radd_ev (castN s) (castN (mulN (pbits q) x d)) (by rw [bMz,bMz,hs.1,hml]) (by rw [bMz,hs.1];exact hS2);rw [show xorB (castN s) (castN (mulN (pbits q) x d))=castN (xorN s (mulN (pbits q) x d)) from eyz _ _ hs.2 (mulN_lt _ _ _)] at hadd;have ih:=upr_ref q K m S i hiK hK hS hS2 M hMi hMl d hd b l D hD hm t0 x1 x2 ss (t+1) (A++ [castN (xorN s (mulN (pbits q) x d))]) (by omega) (by rw [List.length_append,h2];rfl) (fun r hr=>h3 r (List.mem_cons_of_mem _ hr)) (fun j hj=>by have:=h4 (j+1) (by omega);rw [show K+(t+1)+j=K+t+(j+1) by omega,this];rfl) hll
  have hset:((A++(s::ss).map castN).set i b).set (K+t) (castN (xorN s (mulN (pbits q) x d)))=((A++ [castN (xorN s (mulN (pbits q) x d))])++ss.map castN).set i b:=by
   rw [List.set_comm _ _ (show i≠K+t by omega),List.map_cons,set_mid _ _ _ _ _ h2]
  have hfin:A++upr (pbits q) i M d t (s::ss)=(A++ [castN (xorN s (mulN (pbits q) x d))])++upr (pbits q) i M d (t+1) ss:=by
   conv=>lhs;unfold upr
   rw [e4,List.append_assoc];rfl
  have hlen:((A++(s::ss).map castN).set i b).length=K+m:=by
   rw [List.length_set,List.length_append,List.length_map,List.length_cons];omega
  rw [hfin];refine Ev.step (f:=fun k=>(a2z.f k (pbits q) (fpoly (pbits q)) x (castN d)).bind fun u=>(aHz.f k (castN s) u.1).bind fun v=>amz.l0 k l (i:Int) M (castN d) (((A++(s::ss).map castN).set i b).set (K+t) v.1) ((t+1:Nat):Int) q (K:Int) (m:Int) t0 (pbits q) (fpoly (pbits q)) x1 x2) (fun k=> ?_) (Ev.bind hmul (Ev.bind (g:=fun k=>aHz.f k (castN s) (castN (mulN (pbits q) x d))) hadd (Ev.congr (fun k=>by dsimp only;rw [hset]) ih)));have b1:t<=1000:=by omega
  have b2:K+t<=1000:=by omega
  have w1:wrap64 ((t:Int)+1)=((t+1:Nat):Int):=wn1 b1;have w2:wrap64 ((K:Int)+(t:Int))=((K+t:Nat):Int):=wn2 b2;have c1:(t:Int)<(m:Int):=by clear w1 w2;omega
  have c2:(0:Int)<=(t:Int):=by clear w1 w2;omega
  have c3:(t:Int)<(M.length:Int):=by clear w1 w2;omega
  have c4:(0:Int)<=(i:Int):=by clear w1 w2;omega
  have c5:(i:Int)<(c.length:Int):=by clear w1 w2;omega
  have c6:(0:Int)<=((K+t:Nat):Int):=by clear w1 w2;omega
  have c7:((K+t:Nat):Int)<(l.length:Int):=by clear w1 w2;omega
  have c8:((K+t:Nat):Int)<((((A++(s::ss).map castN).set i b).length:Nat):Int):=by clear w1 w2;omega
  rw [amz.l0,Ya c1,Ya c2,Ya c3,Ya c4,e1,Ya c5,e2,w1,w2];simp only [Ya c6,Ya c7,e3,Ya c8,Zu]
theorem fine_len (q:Int) (K M:Nat) (l:List (List Int)) (hmay:aDz.f q (K:Int) (M:Int)=some true) (hb:K+M<=1000) (hL: ¬(l.length:Int)=((K+M:Nat):Int)):bEz.f q (K:Int) (M:Int) l=some false:=by
 unfold bEz.f;rw [hmay,Zl,Ya rfl,wn2 hb,beq_eq_false_iff_ne.2 hL]
theorem evenP_true {wb:Int} {L:Nat} {l:List (List Int)} (h:l.all (evenP wb L)=true): ∀r,r∈l->r.length=L/\r.length % wN wb=0:=fun r hm=>by
 have:=List.all_eq_true.1 h r hm;unfold evenP evB at this
 simpa using this
theorem upd12 (q x y : Int) (l : List (List Int)) (a2 : Int) (b : List Int) (hl : l.length <= 1000) (hr : ∀ r, r ∈ l -> r.length <= 300) (hbl : b.length <= 300) (hb : ∀ r, r ∈ l -> ∀ z, z ∈ r -> 0 <= z /\ z <= 255) (hbb : ∀ z, z ∈ b -> 0 <= z /\ z <= 255) :
  ∃(p:List (List Int)) (e:Int),Ev (fun k=>amz.f k q x y l a2 b) (p,e)/\Ev (fun k=>aIz.f k q x y l a2 b) (p,e)/\p.length<=1000/\(∀r,r∈p-> ∀z,z∈r->0<=z/\z<=255):=by
 have hbad: ∀(f g:Nat->Option (List (List Int)×Int)),Ev f ([],1)->Ev g ([],1)->Ev (fun k=>f k) (([] :List (List Int)),(1:Int))/\Ev (fun k=>g k) (([] :List (List Int)),(1:Int))/\([] :List (List Int)).length<=1000/\(∀r,r∈([] :List (List Int))-> ∀z,z∈r->0<=z/\z<=255):=
  fun f g h1 h2=>⟨h1,h2,Nat.zero_le _,fun r h=>by simp at h⟩
 obtain ⟨mb,hmb⟩:=may_some q x y;have hj: ∀(c d e:Int),Ev (fun k=>amz.j0 k l a2 b true c d e) ([],1):=fun c d e=>Ev.step (f:=fun _=>some ([],1)) (fun k=>by rw [amz.j0,Ya rfl]) (Ev.now _)
 cases mb with
 |false=>
  refine ⟨[],1,hbad _ _ (Ev.congr (fun k=> ?_) (hj q x y)) (Ev.congr (fun k=> ?_) (Ev.now _))⟩
  ·unfold amz.f;rw [esz,hmb,Zl,Yb (by decide)]
  ·unfold aIz.f bEz.f;rw [hmb,Zl,Yb (by decide),Zl,Yb (by decide)]
 |true=>
  obtain ⟨p1,p2,k1,k2,m1,m2⟩:=cvz hmb;obtain ⟨K,rfl⟩: ∃K:Nat,x=K:=⟨x.toNat,by omega⟩;obtain ⟨M,rfl⟩: ∃M:Nat,y=M:=⟨y.toNat,by omega⟩;have hK:K<=8:=by omega
  have hM:M<=4:=by omega
  have hgd:=dgz q K M (by omega) (by omega) hK hM;have wkm:wrap64 ((K:Int)+(M:Int))=((K+M:Nat):Int):=wn2 (by omega);by_cases hlen:(l.length:Int)=((K+M:Nat):Int)
  ·have hlN:l.length=K+M:=by omega
   obtain ⟨r0,h0⟩: ∃r,l[0]?=some r:=⟨_,Zf (by omega)⟩;obtain ⟨L,hL⟩: ∃L,r0.length=L:=⟨_,rfl⟩;have hev:=reven_ev q p1 p2 (K:Int) (M:Int) l L r0 h0 hL (by omega) (fun r hm=>by have:=hr r hm;omega);have h0':rd_L1 l 0=r0:=rd1_at l 0 r0 h0;have hfine:=fine_true q K M l hmb (by omega) hlN;by_cases hi:0<=a2/\a2<(K:Int)
   ·obtain ⟨i,rfl⟩: ∃i:Nat,a2=i:=⟨a2.toNat,by omega⟩;have hiK:i<K:=by omega
    by_cases hok:l.all (evenP (pbits q) b.length)=true
    ·have hall:=evenP_true hok;have hLb:L=b.length:=by rw [<-hL];exact (hall r0 (Zo h0)).1
     subst hLb;obtain ⟨S,hSb⟩: ∃S,b.length=S:=⟨_,rfl⟩
     have hS:S % wN (pbits q)=0:=by
      have:=hall r0 (Zo h0);rw [this.1,hSb] at this;exact this.2
     have hS2:S<=1000000:=by omega
     obtain ⟨P,hPe,hP⟩:=bytes_nat l hb;obtain ⟨bn,hbn,hbn2⟩:=isB_of b hbb;have hbn:b=castN bn:=hbn;have hbS:bn.length=S:=by rw [<-hSb,hbn,bMz]
     have hPl:P.length=K+M:=by rw [<-hlN,hPe,List.length_map]
     have hPP: ∀r,r∈P->r.length=S/\ ∀z,z∈r->z<256:=fun r hm=>⟨by
      have:=(hall (castN r) (by rw [hPe];exact List.mem_map_of_mem hm)).1
      rwa [bMz,hSb] at this,hP r hm⟩
     obtain ⟨ri,hri⟩: ∃r,P[i]?=some r:=⟨_,Zf (by omega)⟩;have hrP:=hPP ri (Zo hri);have hli:l[i]?=some (castN ri):=by rw [hPe,List.getElem?_map,hri];rfl
     have hd:(xorN ri bn).length=S/\ ∀z,z∈xorN ri bn->z<256:=⟨xorN_len2 hrP.1 hbS,xorN_lt (w:=8) ri bn hrP.2 hbn2⟩;have hadd:=add_nat S hS2 ri bn hrP ⟨hbS,hbn2⟩;have hsplit:l=(P.take K).map castN++(P.drop K).map castN:=by rw [<-List.map_append,List.take_append_drop, <-hPe]
     have hAl:((P.take K).map castN).length=K:=by rw [List.length_map,List.length_take];omega
     have hRl:(P.drop K).length=M:=by rw [List.length_drop];omega
     have hRP: ∀r,r∈P.drop K->r.length=S/\ ∀z,z∈r->z<256:=fun r hm=>hPP r (List.mem_of_mem_drop hm)
     have hrowsP: ∀c,c∈parM q K M->c.length=K/\ ∀z,z∈c->inF (pbits q) z=true:=fun c hm=>by
      have:=hgd.1 c hm;refine ⟨this.1,fun z hz=> ?_⟩;have:=this.2 z hz;unfold inF;rw [Zd this.1,Zd this.2];rfl
     obtain ⟨d,hdd⟩: ∃d,xorN ri bn=d:=⟨_,rfl⟩;rw [hdd] at hadd hd;obtain ⟨t0,c1,c2,hof⟩:=rof_ev q p1 p2
     have hloopR:=upr_ref q K M S i hiK (by omega) hS hS2 (parM q K M) hrowsP hgd.2 d hd b l ((P.take K).map castN) hAl (by omega) t0 c1 c2 (P.drop K) 0 ((P.take K).map castN) (by omega) (by omega) hRP (fun j hj=>by
      rw [hsplit,List.getElem?_append_right (by omega),hAl,show K+0+j - K=j by omega]) hlN
     rw [<-hsplit] at hloopR;have hloopC:=upr_codec (djz q) S K i hS hS2 (parM q K M) d hd (P.drop K) 0 ((P.take K).map castN) hRP;refine ⟨((P.take K).map castN++upr (pbits q) i (parM q K M) d 0 (P.drop K)).set i b,0,?_,?_,?_,?_⟩
     ·have haddR:=radd_ev (castN ri) b (by rw [bMz,hrP.1,hSb]) (by rw [bMz,hrP.1];exact hS2);have hx:xorB (castN ri) b=castN d:=by rw [hbn, <-hdd];exact eyz _ _ hrP.2 hbn2
      rw [hx] at haddR;refine Ev.congr (fun k=>by unfold amz.f;rw [esz,hmb,Zl,Ya rfl,wkm,Ya hlen]) ?_;refine Ev.bind hev (Ev.congr (f:=fun k=>amz.j0 k l (i:Int) b false q (K:Int) (M:Int)) (fun k=> ?_) ?_)
      ·rw [hok,Ya rfl,Yb (by omega),Yb (by omega),Ya (by omega),h0',hL,show ((b.length:Int) !=(b.length:Int))=false by simp]
      ·refine Ev.step (f:=fun k=>(bqz.f k q (K:Int) (M:Int)).bind fun u=>(aHz.f k (castN ri) b).bind fun v=>amz.l0 k l (i:Int) u.1 v.1 (l.set i b) ((0:Nat):Int) q (K:Int) (M:Int) t0 (pbits q) (fpoly (pbits q)) c1 c2) (fun k=> ?_) (Ev.bind (rpar_ev q K M hmb) (Ev.bind haddR hloopR));rw [amz.j0,Yb (by decide),hof,Zl,rd1_at l i _ hli];have e1:(0:Int)<=(i:Int):=by omega
       have e2:(i:Int)<(l.length:Int):=by omega
       have e3:([] :List (List Int)).length+l.length<5864062014805:=by rw [List.length_nil];omega
       simp only [Ya e1,Ya e2,Zl,Ya e3,List.nil_append,Zu];rfl
     ·have hgd2:l.getD i [] =castN ri:=by rw [Zm,hli];rfl
      have hbc:Ev (fun k=>cCz.f k (l.getD i []) b) (castN d,0):=by rw [hgd2,hbn];exact hadd
      have hany:(l.any fun s=>(s.length:Int) !=(b.length:Int))=false:=by
       rw [List.any_eq_false];intro s hs;rw [(hall s hs).1];simp
      have hevb:evB (pbits q) b=true:=by
       unfold evB;rw [hSb,hS];rfl
      refine Ev.congr (f:=fun k=>aIz.g k q (K:Int) (M:Int) l i b) (fun k=> ?_) ?_
      ·rw [aIz.f,hfine,Zl,Ya rfl,Ya hi,even_ev q p1 p2,Zl,hevb,Ya rfl,hany,Yb (by decide),Ya (by omega),Zu]
      ·unfold aIz.g;refine Ev.bind hbc (Ev.congr (f:=fun k=>(aIz.l k (pbits q) K i (parM q K M) (castN d) (K+0) ((P.drop K).map castN) ((P.take K).map castN)).bind fun o=>some (o.set i b,0)) (fun k=> ?_) (Ev.bind hloopC (Ev.now _)));have hdl:(castN d).length=S:=by rw [bMz];exact hd.1
       have hq:(castN d).length % wN (pbits q)=0/\(castN d).length<=1000000:=by rw [hdl];exact ⟨hS,hS2⟩
       simp only [Ya hq,Zu]
       have hu:=upd_data k (pbits q) K i (parM q K M) (castN d) ((P.drop K).map castN) ((P.take K).map castN) 0 [] (by omega) (fun r hm=>by
        have:=hr r (by rw [hsplit];exact List.mem_append_left _ hm)
        omega)
       rw [<-hsplit] at hu;rw [hu];rfl
     ·rw [List.length_set,List.length_append,upr_len];omega
     ·intro r hm;rcases List.mem_or_eq_of_mem_set hm with hm|rfl
      ·rcases List.mem_append.1 hm with hm|hm
       ·exact hb r (by rw [hsplit];exact List.mem_append_left _ hm)
       ·exact upr_byte i (parM q K M) d (P.drop K) 0 (fun r hr=>(hRP r hr).2) r hm
      ·exact hbb
    ·refine ⟨[],1,hbad _ _ ?_ ?_⟩
     ·refine Ev.congr (fun k=>by unfold amz.f;rw [esz,hmb,Zl,Ya rfl,wkm,Ya hlen]) ?_;refine Ev.bind hev ?_
      cases he:l.all (evenP (pbits q) L) with
      |false=>exact hj q (K:Int) (M:Int)
      |true=>
       have hne: ¬(b.length:Int)=(L:Int):=fun h=>hok (by rw [show b.length=L by omega];exact he)
       refine Ev.congr (fun k=> ?_) (hj q (K:Int) (M:Int));rw [Ya rfl,Yb (by omega),Yb (by omega),Ya (by omega),h0',hL,bne_iff_ne.2 hne]
     ·refine Ev.congr (fun k=> ?_) (Ev.now _);rw [aIz.f,hfine,Zl,Ya rfl,Ya hi,even_ev q p1 p2,Zl];by_cases hevb:evB (pbits q) b=true
      ·have hany : (l.any fun s => (s.length : Int) != (b.length : Int)) = true := by
        apply Classical.byContradiction
        intro hno;apply hok
        rw [List.all_eq_true];intro r hm;have h1:=List.any_eq_false.1 (Bool.eq_false_iff.2 hno) r hm
        have h2:r.length=b.length:=by
         simp at h1;omega
        unfold evenP evB;unfold evB at hevb;rw [h2,hevb];simp
       rw [Ya hevb,Ya hany]
      ·rw [Yb hevb]
   ·refine ⟨[],1,hbad _ _ ?_ ?_⟩
    ·refine Ev.congr (fun k=>by unfold amz.f;rw [esz,hmb,Zl,Ya rfl,wkm,Ya hlen]) ?_;refine Ev.bind hev ?_
     cases he:l.all (evenP (pbits q) L) with
     |false=>exact hj q (K:Int) (M:Int)
     |true=>
      refine Ev.congr (fun k=> ?_) (hj q (K:Int) (M:Int));by_cases hneg:a2<0
      ·rw [Ya rfl,Ya hneg]
      ·rw [Ya rfl,Yb hneg,Ya (by omega)]
    ·refine Ev.congr (fun k=> ?_) (Ev.now _);rw [aIz.f,hfine,Zl,Ya rfl,Yb hi]
  ·refine ⟨[],1,hbad _ _ (Ev.congr (fun k=> ?_) (hj q (K:Int) (M:Int))) (Ev.congr (fun k=> ?_) (Ev.now _))⟩
   ·unfold amz.f;rw [esz,hmb,Zl,Ya rfl,wkm,Yb hlen]
   ·unfold aIz.f;rw [fine_len q K M l hmb (by omega) hlen,Zl,Yb (by decide)]
theorem byt_inj: ∀(x y:List Int),(∀z,z∈x->0<=z/\z<=255)->(∀z,z∈y->0<=z/\z<=255)->(x.map fun n:Int=>UInt8.ofNat n.toNat)=(y.map fun n:Int=>UInt8.ofNat n.toNat)->x=y
 | [], [],_,_,_=>rfl
 | [],_::_,_,_,h=>by simp at h
 |_::_, [],_,_,h=>by simp at h
 |a::x,b::y,hx,hy,h=>by
  rw [List.map_cons,List.map_cons] at h;injection h with h1 h2
  have ha:=hx a (List.mem_cons_self ..);have hb:=hy b (List.mem_cons_self ..)
  have h3:a.toNat=b.toNat:=by
   have h4:=congrArg UInt8.toNat h1;rw [UInt8.toNat_ofNat',UInt8.toNat_ofNat',Nat.mod_eq_of_lt (by omega),Nat.mod_eq_of_lt (by omega)] at h4;exact h4
  rw [byt_inj x y (fun z hz=>hx z (List.mem_cons_of_mem _ hz)) (fun z hz=>hy z (List.mem_cons_of_mem _ hz)) h2,show a=b by omega]
theorem str_inj (x y:List Int) (hx: ∀z,z∈x->0<=z/\z<=255) (hy: ∀z,z∈y->0<=z/\z<=255) (h:(strOfNums x).toList=(strOfNums y).toList):x=y:=by
 rw [Lib.strOfNums_toList,Lib.strOfNums_toList] at h;exact byt_inj x y hx hy h
theorem rsame_l (p q : List (List Int)) (n : Nat) (hp : p.length = n) (hq : q.length = n) (hn : n <= 1000000) (hpb : ∀ r, r ∈ p -> ∀ z, z ∈ r -> 0 <= z /\ z <= 255) (hqb : ∀ r, r ∈ q -> ∀ z, z ∈ r -> 0 <= z /\ z <= 255) :
  ∀(m i:Nat),i+m=n->Ev (fun k=>bdz.l0 k p q (i:Int)) (decide (p.drop i=q.drop i)):=by
 intro m
 induction m with
 |zero=>
  intro i hi;refine Ev.step (f:=fun _=>some true) (fun k=> ?_) ?_
  ·rw [bdz.l0,Yb (by omega)]
  ·rw [List.drop_of_length_le (by omega),List.drop_of_length_le (by omega)];exact Ev.now _
 |succ m ih=>
  intro i hi;have hip:i<p.length:=by omega
  have hiq:i<q.length:=by omega
  have e1:p.getD (i:Int).toNat [] =p[i] :=by rw [Zu,Zm,Zf hip];rfl
  have e2:q.getD (i:Int).toNat [] =q[i] :=by rw [Zu,Zm,Zf hiq];rfl
  have d1:=List.drop_eq_getElem_cons hip;have d2:=List.drop_eq_getElem_cons hiq;by_cases h:p[i] =q[i]
  ·refine Ev.step (f:=fun k=>bdz.l0 k p q ((i+1:Nat):Int)) (fun k=> ?_) ?_
   ·rw [bdz.l0,Ya (by omega),Ya (by omega),Ya (by omega),e1,e2,Ya (by rw [h]),dWz (by omega)]
   ·have:=ih (i+1) (by omega);rw [d1,d2];rw [show decide (p[i] ::p.drop (i+1)=q[i] ::q.drop (i+1))=decide (p.drop (i+1)=q.drop (i+1)) by rw [h];simp only [List.cons.injEq,true_and]];exact this
  ·refine Ev.step (f:=fun _=>some false) (fun k=> ?_) ?_
   ·rw [bdz.l0,Ya (by omega),Ya (by omega),Ya (by omega),e1,e2,Yb (fun e=>h (str_inj _ _ (hpb _ (List.getElem_mem _)) (hqb _ (List.getElem_mem _)) e))]
   ·rw [d1,d2,Ze (by intro hh;injection hh with h1 _;exact h h1)];exact Ev.now _
theorem rsame_dec (p q:List (List Int)) (hn:p.length<=1000000) (hpb: ∀r,r∈p-> ∀z,z∈r->0<=z/\z<=255) (hqb: ∀r,r∈q-> ∀z,z∈r->0<=z/\z<=255):Ev (fun k=>bdz.f k p q) (decide (p=q)):=by
 by_cases hl:p.length=q.length
 ·have h:=rsame_l p q p.length rfl hl.symm hn hpb hqb p.length 0 (by omega);refine Ev.congr (fun k=> ?_) (by simpa using h);unfold bdz.f;rw [Ya (by omega)]
 ·refine Ev.congr (f:=fun _=>some false) (fun k=> ?_) ?_
  ·unfold bdz.f;rw [Yb (by omega)]
  ·rw [Ze (by rintro rfl;exact hl rfl)];exact Ev.now _
theorem fewb_loop (l:List (List Int)): ∀(m i:Nat),i+m=l.length->(∀r,r∈l.take i->r.length<=300)->i<=13-> ∃b,Ev (fun k=>aBz.l0 k l (i:Int)) b/\(b=true->(∀r,r∈l->r.length<=300)/\l.length<=12):=by
 intro m
 induction m with
 |zero=>
  intro i hi h _;refine ⟨decide ((l.length:Int)<=12),?_,fun hb=> ?_⟩
  ·have he : Ev (fun k => aBz.j1 k l (i : Int) false) (decide ((l.length : Int) <= 12)) := by
    refine Ev.step (f:=fun _=>some (decide ((l.length:Int)<=12))) (fun k=> ?_) (Ev.now _);rw [aBz.j1,Yb (by decide)]
   refine Ev.step (fun k=> ?_) he;rw [aBz.l0,Yb (by omega)]
  ·rw [List.take_of_length_le (by omega)] at h;have:=Zc hb;exact ⟨h,by omega⟩
 |succ m ih=>
  intro i hi h h13;by_cases hlt:i<13
  ·obtain ⟨r,hr⟩: ∃r,l[i]?=some r:=⟨_,Zf (by omega)⟩;have hrd:rd_L1 l (i:Int)=r:=by unfold rd_L1;rw [Zu,Zm,hr];rfl
   by_cases hlen:r.length<=300
   ·obtain ⟨b, hE, hb⟩ := ih (i + 1) (by omega) (fun q hq => by
     rw [List.take_add_one,hr] at hq;rcases List.mem_append.1 hq with hq|hq
     ·exact h q hq
     ·obtain rfl:q=r:=by simpa using hq
      exact hlen) (by omega)
    refine ⟨b,?_,hb⟩
    have he:Ev (fun k=>aBz.j1 k l (i:Int) true) b:=by
     refine Ev.step (fun k=> ?_) hE;rw [aBz.j1,Ya rfl,Ya (by omega),Ya (by omega),hrd,Yb (by omega),dWz (by omega)]
    refine Ev.step (fun k=> ?_) he;rw [aBz.l0,Ya (by omega),Zd (by omega)]
   ·refine ⟨false,?_,fun hb=>by cases hb⟩
    have he:Ev (fun k=>aBz.j1 k l (i:Int) true) false:=by
     refine Ev.step (f:=fun _=>some false) (fun k=> ?_) (Ev.now _);rw [aBz.j1,Ya rfl,Ya (by omega),Ya (by omega),hrd,Ya (by omega)]
    refine Ev.step (fun k=> ?_) he;rw [aBz.l0,Ya (by omega),Zd (by omega)]
  ·refine ⟨decide ((l.length:Int)<=12),?_,fun hb=>by have:=Zc hb;omega⟩
   have he:Ev (fun k=>aBz.j1 k l (i:Int) false) (decide ((l.length:Int)<=12)):=by
    refine Ev.step (f:=fun _=>some (decide ((l.length:Int)<=12))) (fun k=> ?_) (Ev.now _);rw [aBz.j1,Yb (by decide)]
   refine Ev.step (fun k=> ?_) he;rw [aBz.l0,Ya (by omega),Ze (by omega)]
theorem fewb_ev (l:List (List Int)): ∃b,Ev (fun n=>aBz.f n l) b/\(b=true->(∀r,r∈l->r.length<=300)/\l.length<=12):=by
 obtain ⟨b,h1,h2⟩:=fewb_loop l l.length 0 (by omega) (by simp) (by omega);exact ⟨b,Ev.congr (fun n=>rfl) h1,h2⟩
theorem u8_wf {x:Int} (h:(Lit.int .u8 x).wf=true):0<=x/\x<=255:=by
 simp [Lit.wf,IntKind.has] at h;have h1:IntKind.min .u8=0:=rfl;have h2:IntKind.max .u8=255:=rfl;omega
end Go.Proofs.Xc
end
section
namespace Go.Proofs.YtpdakdcmahlghaaGreat.RowKit
open Go Go.ChangeShapes Go.Proofs.Pw Go.Proofs.Xc
theorem nil_reads {α:Type} (d:Kd α) (w:World):d.C w none 0 [] :=⟨rfl,by simp,fun h=>Yf h (by simp)⟩
theorem open_rows {H : Type} {enc : TypeId × Value -> H} {P : Program} {w : World} {t e eb : TypeId} {k : IntKind} {fuel : Nat} {cs : List Value} {x : DataW H × List MemPlace} (ht : P.underlying t = some (.slice e)) (he : P.underlying e = some (.slice eb)) (hb : P.underlying eb = some (.int k)) (hce : P.cellsOf e = 1) (hcb : P.cellsOf eb = 1)
  (h:DataW.trod enc P w 0 (fun _=>true) true fuel t cs=some x):
  ∃(A:Option Addr) (cap:Nat) (rows:List (List Int)),cs= [.slice A rows.length cap] /\rows.length<=cap/\rows.length<=maxLen/\Kd.C (Kd.slice eb (Kd.int k)) w A rows.length rows/\ ∀r,r∈rows->r.length<=maxLen/\ ∀x∈r,(Lit.int k x).wf=true:=by
 rcases DataW.trod_slice ht h with ⟨rfl, -⟩|⟨a,len,cap,elems,rest,n,rfl,rfl,rfl, -,hl,hm,hlen,hel, -, -⟩
 ·exact ⟨none,0, [],rfl,Zv _,Nat.zero_le _,nil_reads _ _,fun r hr=>by simp at hr⟩
 have each: ∀i,i<len-> ∃r:List Int,(∃A c,w.cell? (a.add i)=some (.slice A r.length c)/\r.length<=c/\Kd.C (Kd.int k) w A r.length r)/\r.length<=maxLen/\ ∀x∈r,(Lit.int k x).wf=true:=by
  intro i hi;have h1:=hel i hi;rw [hce,Nat.mul_one,Zf (by omega),Option.bind_eq_some_iff] at h1;obtain ⟨cs',hcs,hy⟩:=h1;rcases open_ints he hb hcb hy with ⟨rfl, -⟩|⟨a',l',c',zs,rfl, -,hl',hm',hz, -,hcell,hwz⟩
  ·exact ⟨[],⟨none,0,cell_of_cells?_one hcs,Zv _,nil_reads _ _⟩,Nat.zero_le _,fun x hx=>by simp at hx⟩
  ·obtain ⟨r,rfl,h1,h2,h3,h4⟩:=ReadsInt.ofRowC (k:=k) (w:=w) (a:=some a') (len:=l') (cap:=c') (zs:=zs) (.inr ⟨a',rfl,hl',hm',by simpa using hz,hcell,hwz⟩);exact ⟨r,⟨some a',c',cell_of_cells?_one hcs,h4,Kd.C_of_reads (d:=(0:Int)) (h1:=fun _=>rfl) h1⟩,h2,h3⟩
 have all: ∀m,m<=len-> ∃rows:List (List Int),rows.length=m/\ ∀(i:Nat) (r:List Int),rows[i]?=some r->(∃A c,w.cell? (a.add i)=some (.slice A r.length c)/\r.length<=c/\Kd.C (Kd.int k) w A r.length r)/\r.length<=maxLen/\ ∀x∈r,(Lit.int k x).wf=true:=by
  intro m
  induction m with
  |zero=>exact fun _=>⟨[],rfl,fun i r hr=>by simp at hr⟩
  |succ m ih=>
   intro hm;obtain ⟨rows,e1,e2⟩:=ih (by omega);obtain ⟨r,hr⟩:=each m (by omega);refine ⟨rows++ [r],by simp [e1],fun i q hq=> ?_⟩;by_cases hi:i<rows.length
   ·rw [List.getElem?_append_left hi] at hq;exact e2 i q hq
   ·have hlt:=(Zk hq).1;obtain rfl:i=m:=by simp at hlt;omega
    rw [List.getElem?_append_right (by omega),e1,Nat.sub_self] at hq;obtain rfl:r=q:=by simpa using hq
    exact hr
 obtain ⟨rows,rfl,hrows⟩:=all len (Zv _);refine ⟨some a,cap,rows,rfl,hl,Zt hl hm,⟨rfl,Zt (Zt hl hm) (by decide),fun _=>⟨a,rfl,fun j p hj=> ?_⟩⟩,fun r hr=> ?_⟩
 ·obtain ⟨⟨A,c,h1,h2,h3⟩, -, -⟩:=hrows j p hj;refine ⟨[.slice A p.length c],rfl,⟨A,c,rfl,h2,h3⟩,fun i u hu=> ?_⟩
  cases i with
  |zero=>
   obtain rfl:Value.slice A p.length c=u:=by simpa using hu
   show w.cell? (a.add (j*1+0))=_;rw [Nat.mul_one];exact h1
  |succ i=>simp at hu
 ·obtain ⟨j,hj⟩:=List.getElem?_of_mem hr;exact (hrows j r hj).2
end Go.Proofs.YtpdakdcmahlghaaGreat.RowKit
end
