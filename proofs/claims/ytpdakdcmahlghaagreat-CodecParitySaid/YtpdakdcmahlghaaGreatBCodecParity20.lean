-- Joined texts of this work (wip/tools/bundle.py).
import Derived.Lib.Bytes
import Derived.WideShapes
import Derived.ChangeSlices
import Derived.Test.YtpdakdcmahlghaaGreatBCodecParity19
section
namespace Go.Proofs.Xc
open Go.RowKit Go.Proofs.Pw Go.Proofs.Pl Go.Proofs.Pm
attribute [local go_sem] bfz bgz boz bpz a5z a6z bhz biz
set_option linter.unusedVariables false
set_option linter.unusedSimpArgs false
def fN (wb:Int):Nat:=if wb=8 then 256 else 65536
theorem fN_fsize {wb:Int} (hw:wb=8\/wb=16):fsize wb=(fN wb:Int):=by rcases hw with rfl|rfl<;>rfl
theorem gmul_cast {wb a b:Int} (ha:0<=a/\a<fsize wb) (hb:0<=b/\b<fsize wb):gmul wb a b=(gmN wb a.toNat b.toNat:Int):=by
 unfold gmul inF;rw [Ya (by simp [ha.1,ha.2,hb.1,hb.2])]
theorem d4z {wb a b:Int} (ha:0<=a/\a<fsize wb) (hb:0<=b/\b<fsize wb):(gmul wb a b).toNat=gmN wb a.toNat b.toNat:=by
 rw [gmul_cast ha hb,Zu]
section
variable {wb : Int} (hw : wb = 8 \/ wb = 16)
include hw
theorem cMz: ∃(m q:Nat) (l:List Nat),GfInv m q l/\fN wb=2^(m+1)/\ ∀a b,gmN wb a b=gm m q a b:=by
 rcases hw with rfl|rfl
 ·exact ⟨7,285,_,gf8,rfl,fun a b=>rfl⟩
 ·exact ⟨15,69643,_,gf16,rfl,fun a b=>rfl⟩
theorem gmN_ltN {a:Nat} (b:Nat) (ha:a<fN wb):gmN wb a b<fN wb:=by
 obtain ⟨m,q,l,F,e,h⟩:=cMz hw;rw [h,e];exact F.lt (by rw [<-e];exact ha)
theorem gmN_xl {a c:Nat} (b:Nat) (ha:a<fN wb) (hc:c<fN wb):gmN wb (a^^^c) b=gmN wb a b^^^gmN wb c b:=by
 obtain ⟨m,q,l,F,e,h⟩:=cMz hw;rw [e] at ha hc;rw [h,h,h];exact F.dmz ha hc
theorem gmN_xr (a b c:Nat):gmN wb a (b^^^c)=gmN wb a b^^^gmN wb a c:=by
 obtain ⟨m,q,l,F,e,h⟩:=cMz hw;rw [h,h,h];exact Gf.drz a b c
theorem gmN_comm {a b:Nat} (ha:a<fN wb) (hb:b<fN wb):gmN wb a b=gmN wb b a:=by
 obtain ⟨m,q,l,F,e,h⟩:=cMz hw;rw [e] at ha hb;rw [h,h];exact F.comm ha hb
theorem gmN_asc {a b:Nat} (ha:a<fN wb) (hb:b<fN wb) (c:Nat):gmN wb (gmN wb a b) c=gmN wb a (gmN wb b c):=by
 obtain ⟨m,q,l,F,e,h⟩:=cMz hw;rw [e] at ha hb;rw [h,h,h,h];exact F.assoc ha hb c
theorem gmN_id {a:Nat} (ha:a<fN wb):gmN wb a 1=a:=by
 obtain ⟨m,q,l,F,e,h⟩:=cMz hw;rw [e] at ha;rw [h];exact F.one_right ha
theorem one_ltN:1<fN wb:=by rcases hw with rfl|rfl<;>decide
theorem gmN_idl {a:Nat} (ha:a<fN wb):gmN wb 1 a=a:=by rw [gmN_comm hw (one_ltN hw) ha,gmN_id hw ha]
theorem gmN_zl (a:Nat):gmN wb 0 a=0:=by
 obtain ⟨m,q,l,F,e,h⟩:=cMz hw;rw [h];exact Gf.zero_left a
theorem cXz (a:Nat):gmN wb a 0=0:=by
 obtain ⟨m,q,l,F,e,h⟩:=cMz hw;rw [h];exact Gf.zero_right a
theorem xor_ltN {a b:Nat} (ha:a<fN wb) (hb:b<fN wb):a^^^b<fN wb:=by
 obtain ⟨m,q,l,F,e,h⟩:=cMz hw;rw [e] at ha hb|-;exact Nat.xor_lt_two_pow ha hb
theorem bXz {a:Int} (ha:0<=a/\a<fsize wb):a.toNat<fN wb:=by
 have:=fN_fsize hw;omega
theorem bx_toNat {a b:Int} (ha:0<=a/\a<fsize wb) (hb:0<=b/\b<fsize wb):(Go.bits .xor .i64 a b).toNat=a.toNat^^^b.toNat:=by
 obtain ⟨x,rfl⟩: ∃x:Nat,a=x:=⟨a.toNat,by omega⟩;obtain ⟨y,rfl⟩: ∃y:Nat,b=y:=⟨b.toNat,by omega⟩;rcases djz hw with ⟨e, -⟩|⟨e, -⟩<;>rw [e] at ha hb
 ·rw [dDz x y (by omega) (by omega)];simp
 ·rw [dDz x y (by omega) (by omega)];simp
theorem gmN_inv {a:Nat} (ha:a<fN wb) (h0:a≠0):gmN wb a (ginv wb (a:Int)).toNat=1:=by
 have e:(ginv wb (a:Int)).toNat=gpwN wb a (fsize wb - 2).toNat:=by
  have hin:inF wb (a:Int)=true:=by
   unfold inF;rw [Zd (by omega),Zd (by rw [fN_fsize hw];omega)];rfl
  have hb:((a:Int) !=0)=true:=by simpa using h0
  have hf:decide ((0:Int)<=fsize wb - 2)=true:=by rcases hw with rfl|rfl<;>rfl
  unfold ginv;rw [hin,hb,Ya (by decide)];unfold gpow;rw [hin,hf,Ya (by decide),Zu,Zu]
 rw [e];rcases hw with rfl|rfl
 ·exact gf8.inv_left (m:=7) (by exact ha) h0
 ·exact gf16.inv_left (m:=15) (by exact ha) h0
end
theorem xor4 (a b c d:Nat):(a^^^b)^^^(c^^^d)=(a^^^c)^^^(b^^^d):=by
 rw [Nat.xor_assoc,Nat.xor_assoc, <-Nat.xor_assoc b, <-Nat.xor_assoc c,Nat.xor_comm b]
def evN (wb:Int):List Int->List Nat->Nat
 |x::r,y::v=>gmN wb x.toNat y^^^evN wb r v
 |_,_=>0
section
variable {wb : Int} (hw : wb = 8 \/ wb = 16)
include hw
theorem evN_clr {n : Int} (hn : 0 <= n /\ n < fsize wb) : ∀ (r p : List Int) (v : List Nat), r.length = p.length -> (∀ x, x ∈ r -> 0 <= x /\ x < fsize wb) -> (∀ x, x ∈ p -> 0 <= x /\ x < fsize wb) ->
  evN wb (List.zipWith (clrF wb n) r p) v=evN wb r v^^^gmN wb n.toNat (evN wb p v)
 | [], [],v,_,_,_=>by simp [evN,cXz hw]
 | [],_::_,_,h,_,_=>by simp at h
 |_::_, [],_,h,_,_=>by simp at h
 |x::r,y::p, [],_,_,_=>by simp [evN,cXz hw]
 |x::r,y::p,z::v,h,hr,hp=>by
  have ih:=evN_clr hn r p v (by simpa using h) (fun x hx=>hr x (List.mem_cons_of_mem _ hx)) (fun x hx=>hp x (List.mem_cons_of_mem _ hx));have hx:=hr x (List.mem_cons_self ..);have hy:=hp y (List.mem_cons_self ..);show gmN wb (clrF wb n x y).toNat z^^^evN wb (List.zipWith (clrF wb n) r p) v=(gmN wb x.toNat z^^^evN wb r v)^^^gmN wb n.toNat (gmN wb y.toNat z^^^evN wb p v)
  have e:(clrF wb n x y).toNat=x.toNat^^^gmN wb n.toNat y.toNat:=by
   unfold clrF;rw [bx_toNat hw hx (bHz hw _ _),d4z hn hy]
  rw [ih,e,gmN_xl hw z (bXz hw hx) (gmN_ltN hw _ (bXz hw hn)),gmN_asc hw (bXz hw hn) (bXz hw hy),gmN_xr hw,xor4]
theorem evN_scl {c : Int} (hc : 0 <= c /\ c < fsize wb) : ∀ (p : List Int) (v : List Nat), (∀ x, x ∈ p -> 0 <= x /\ x < fsize wb) ->
  evN wb (List.zipWith (fun x _=>gmul wb x c) p p) v=gmN wb c.toNat (evN wb p v)
 | [],v,_=>by simp [evN,cXz hw]
 |x::p, [],_=>by simp [evN,cXz hw]
 |x::p,z::v,hp=>by
  have ih:=evN_scl hc p v (fun x hx=>hp x (List.mem_cons_of_mem _ hx));have hx:=hp x (List.mem_cons_self ..);show gmN wb (gmul wb x c).toNat z^^^evN wb (List.zipWith (fun x _=>gmul wb x c) p p) v=gmN wb c.toNat (gmN wb x.toNat z^^^evN wb p v);rw [ih,d4z hx hc,gmN_xr hw,gmN_comm hw (bXz hw hx) (bXz hw hc),gmN_asc hw (bXz hw hc) (bXz hw hx)]
theorem evN_off: ∀(r:List Int) (v:List Nat),(∀j,j<v.length->r.getD j 0=0\/v.getD j 0=0)->evN wb r v=0
 | [],v,_=>rfl
 |x::r, [],_=>rfl
 |x::r,y::v,h=>by
  have ih:=evN_off r v (fun j hj=>by simpa using h (j+1) (by simpa using hj));have h0:=h 0 (by simp);show gmN wb x.toNat y^^^evN wb r v=0;rw [ih];rcases h0 with h0|h0
  ·have:x=0:=by simpa using h0
   rw [this];simp [gmN_zl hw]
  ·have:y=0:=by simpa using h0
   rw [this];simp [cXz hw]
theorem evN_two: ∀(r:List Int) (v:List Nat) (i c:Nat),i<c->c<v.length->r.getD i 0=1->v.getD c 0=1->(v.getD i 0=(r.getD c 0).toNat)->(0<=r.getD c 0/\r.getD c 0<fsize wb)->(∀j,j<v.length->j≠i->j≠c->r.getD j 0=0\/v.getD j 0=0)->evN wb r v=0
 | [],v,i,c,_,_,h1,_,_,_,_=>by simp at h1
 |x::r, [],i,c,_,h,_,_,_,_,_=>by simp at h
 |x::r,y::v,0,c+1,_,hc,h1,h2,h3,h4,h=>by
  have e1:x=1:=by simpa using h1
  have e2:v.getD c 0=1:=by simpa using h2
  have e3:y=(r.getD c 0).toNat:=by simpa using h3
  have e4:0<=r.getD c 0/\r.getD c 0<fsize wb:=by simpa using h4
  have hlt:=bXz hw e4;show gmN wb x.toNat y^^^evN wb r v=0
  have key: ∀(r:List Int) (v:List Nat) (c:Nat),c<v.length->v.getD c 0=1->(0<=r.getD c 0/\r.getD c 0<fsize wb)->(∀j,j<v.length->j≠c->r.getD j 0=0\/v.getD j 0=0)->evN wb r v=(r.getD c 0).toNat:=by
   intro r
   induction r with
   |nil=>intro v c _ _ _ _;simp [evN]
   |cons x r ih=>
    intro v c hc h1 h2 h
    cases v with
    |nil=>simp at hc
    |cons y v=>
     cases c with
     |zero=>
      have:=evN_off hw r v (fun j hj=>by simpa using h (j+1) (by simpa using hj) (by omega));have hy:y=1:=by simpa using h1
      have hx:0<=x/\x<fsize wb:=by simpa using h2
      show gmN wb x.toNat y^^^evN wb r v=_;rw [this,hy,gmN_id hw (bXz hw hx),Nat.xor_zero];simp
     |succ c=>
      have ih:=ih v c (by simpa using hc) (by simpa using h1) (by simpa using h2) (fun j hj hne=>by simpa using h (j+1) (by simpa using hj) (by omega));have h0:=h 0 (by simp) (by omega);show gmN wb x.toNat y^^^evN wb r v=_;rw [ih];rcases h0 with h0|h0
      ·have:x=0:=by simpa using h0
       rw [this];show gmN wb 0 y^^^_=_;rw [gmN_zl hw,Nat.zero_xor];simp
      ·have:y=0:=by simpa using h0
       rw [this,cXz hw,Nat.zero_xor];simp
  rw [key r v c (by simpa using hc) e2 e4 (fun j hj hne=>by simpa using h (j+1) (by simpa using hj) (by omega) (by omega)),e1,e3];show gmN wb 1 _^^^_=0;rw [gmN_idl hw hlt,Nat.xor_self]
 |x::r,y::v,i+1,c+1,hic,hc,h1,h2,h3,h4,h=>by
  have ih:=evN_two r v i c (by omega) (by simpa using hc) (by simpa using h1) (by simpa using h2) (by simpa using h3) (by simpa using h4) (fun j hj hne hnc=>by simpa using h (j+1) (by simpa using hj) (by omega) (by omega));have h0:=h 0 (by simp) (by omega) (by omega);show gmN wb x.toNat y^^^evN wb r v=0;rw [ih];rcases h0 with h0|h0
  ·have:x=0:=by simpa using h0
   rw [this];show gmN wb 0 y^^^_=_;rw [gmN_zl hw,Nat.zero_xor]
  ·have:y=0:=by simpa using h0
   rw [this,cXz hw,Nat.zero_xor]
 |x::r,y::v,i,0,hic,_,_,_,_,_,_=>by omega
end
theorem idxF_at' {α:Type} (p:α->Bool): ∀(l:List α), ¬idxF p l<0-> ∃x,l[(idxF p l).toNat]?=some x/\p x=true
 | [],h=>by simp [idxF] at h
 |y::l,h=>by
  have h1:=dvz p l;unfold idxF at h|-;by_cases hp:p y=true
  ·rw [Ya hp];exact ⟨y,by simp,hp⟩
  ·rw [Yb hp] at h|-;by_cases hn:idxF p l<0
   ·rw [Ya hn] at h;omega
   ·rw [Yb hn];obtain ⟨x,hx,hpx⟩:=idxF_at' p l hn;refine ⟨x,?_,hpx⟩;rw [show (idxF p l+1).toNat=(idxF p l).toNat+1 by omega,List.getElem?_cons_succ];exact hx
theorem evN_lt {wb:Int} (hw:wb=8\/wb=16): ∀(r:List Int) (v:List Nat),(∀x,x∈r->0<=x/\x<fsize wb)->evN wb r v<fN wb
 | [],_,_=>by have:=one_ltN hw;simp only [evN];omega
 |_::_, [],_=>by have:=one_ltN hw;simp only [evN];omega
 |x::r,y::v,h=>xor_ltN hw (gmN_ltN hw _ (bXz hw (h x (List.mem_cons_self ..)))) (evN_lt hw r v (fun z hz=>h z (List.mem_cons_of_mem _ hz)))
structure RI (wb:Int) (n:Nat) (u b:List Nat) (c:Nat) (W:List (List Int)):Prop where
 len:W.length=n
 good: ∀r,r∈W->Good wb (n+n) r
 zero: ∀r,r∈W->evN wb r (u++b)=0
 unit: ∀i r,W[i]?=some r-> ∀j,j<c->r.getD j 0=if i=j then 1 else 0
 inj: ∀v:List Nat,v.length=n->(∀x,x∈v->x<fN wb)->(∀r,r∈W->evN wb r v=0)-> ∀x,x∈v->x=0
theorem cNz {wb:Int} {L:Nat} {r:List Int} (h:Good wb L r) (j:Nat):0<=r.getD j 0/\r.getD j 0<fsize wb:=by
 rw [Zm]
 cases e:r[j]? with
 |none=>exact ⟨Int.le_refl _,by show (0:Int)<_;unfold fsize;split<;>omega⟩
 |some x=>exact h.2 x (Zo e)
theorem getD_zip (f:Int->Int->Int) (hf:f 0 0=0): ∀(r p:List Int) (j:Nat),r.length=p.length->(List.zipWith f r p).getD j 0=f (r.getD j 0) (p.getD j 0)
 | [], [],j,_=>by simp [hf]
 | [],_::_,_,h=>by simp at h
 |_::_, [],_,h=>by simp at h
 |x::r,y::p,0,_=>by simp
 |x::r,y::p,j+1,h=>by simpa using getD_zip f hf r p j (by simpa using h)
theorem elz {a b:Int} (ha:0<=a) (hb:0<=b) (h:a.toNat=b.toNat):a=b:=by omega
section
variable {wb : Int} (hw : wb = 8 \/ wb = 16)
include hw
theorem RI.pivot {n c:Nat} {u b:List Nat} {W:List (List Int)} (h:RI wb n u b c W) (hc:c<n): ¬idxF (nzB c) (W.drop c)<0:=by
 intro hneg;have hany:=(dvz (nzB c) (W.drop c)).2.2.1 hneg
 have hz: ∀i r,W[i]?=some r->c<=i->r.getD c 0=0:=by
  intro i r hr hi;have h1:=List.any_eq_false.1 hany r (List.mem_iff_getElem?.2 ⟨i - c,by rw [List.getElem?_drop,show c+(i - c)=i by omega];exact hr⟩)
  simpa [nzB] using h1
 obtain ⟨v,hv⟩: ∃v:List Nat,v=(List.range n).map (fun j=>if j<c then ((W.getD j []).getD c 0).toNat else if j=c then 1 else 0):=⟨_,rfl⟩;have vlen:v.length=n:=by rw [hv];simp
 have vat: ∀j,j<n->v.getD j 0=if j<c then ((W.getD j []).getD c 0).toNat else if j=c then 1 else 0:=by
  intro j hj;rw [hv,Zm];simp [hj]
 have hin: ∀x,x∈v->x<fN wb:=by
  intro x hx;rw [hv] at hx;obtain ⟨j,hj,rfl⟩:=List.mem_map.1 hx;have hj:j<n:=by simpa using hj
  have p1:=one_ltN hw;split
  ·obtain ⟨r,hr⟩: ∃r,W[j]?=some r:=⟨_,Zf (by rw [h.len];exact hj)⟩;have hWr:W.getD j [] =r:=by rw [Zm,hr];rfl
   rw [hWr];exact bXz hw (cNz (h.good r (Zo hr)) c)
  ·split<;>omega
 have hall:=h.inj v vlen hin (by
  intro r hr;obtain ⟨i,hi⟩:=List.mem_iff_getElem?.1 hr;have hil:=(Zk hi).1;rw [h.len] at hil;by_cases hic:i<c
  ·refine evN_two hw r v i c hic (by omega) (by rw [h.unit i r hi i hic, Ya rfl]) (by rw [vat c hc, Yb (Nat.lt_irrefl _), Ya rfl]) (by
    have hWr:W.getD i [] =r:=by rw [Zm,hi];rfl
    rw [vat i hil,Ya hic,hWr]) (cNz (h.good r hr) c) ?_
   intro j hj hji hjc;by_cases hjl:j<c
   ·exact .inl (by rw [h.unit i r hi j hjl,Yb (Ne.symm hji)])
   ·exact .inr (by rw [vat j (by omega),Yb hjl,Yb hjc])
  ·refine evN_off hw r v ?_;intro j hj;by_cases hjl:j<c
   ·exact .inl (by rw [h.unit i r hi j hjl,Yb (by omega)])
   ·by_cases hjc:j=c
    ·exact .inl (by rw [hjc];exact hz i r hi (by omega))
    ·exact .inr (by rw [vat j (by omega),Yb hjl,Yb hjc]))
 have h1:v.getD c 0=1:=by rw [vat c hc,Yb (Nat.lt_irrefl _),Ya rfl]
 have h2:v.getD c 0=0:=by
  rw [Zm,Zf (by omega)];exact hall _ (List.getElem_mem _)
 omega
theorem RI.step {n c:Nat} {u b:List Nat} {W:List (List Int)} (h:RI wb n u b c W) (hc:c<n):RI wb n u b (c+1) (redStep wb c W c).1/\(redStep wb c W c).2=c+1:=by
 have hp:=h.pivot hw hc;have hg:=eYz hw (n+n) c W c h.good;revert hg;unfold redStep;have hat:=idxF_at' (nzB c) (W.drop c) hp;have hz:=dvz (nzB c) (W.drop c)
 generalize idxF (nzB c) (W.drop c)=z at *
 dsimp only;rw [Yb hp];obtain ⟨pr,hpr,hnz⟩:=hat;rw [List.getElem?_drop] at hpr;obtain ⟨k,hk⟩: ∃k,c+z.toNat=k:=⟨_,rfl⟩;rw [hk] at hpr|-;have hkc:c<=k:=by omega
 obtain ⟨q,hq⟩: ∃q,W[c]?=some q:=⟨_,Zf (by rw [h.len];exact hc)⟩;have hsw:=c5z W c k q pr hq hpr;have hsl:=c4z W c k;have hsm:=swapL_mem W c k
 generalize swapL W c k=R at *
 have hRc:R[c]?=some pr:=by
  rw [hsw];by_cases hck:c=k
  ·rw [Ya hck];subst hck;rw [<-hq,hpr]
  ·rw [Yb hck,Ya rfl]
 have hRcD:R.getD c [] =pr:=by rw [Zm,hRc];rfl
 rw [hRcD];have hgp:=h.good pr (Zo hpr);have hpc:=cNz hgp c;have hpc0:pr.getD c 0≠0:=by simpa [nzB] using hnz
 obtain ⟨a,ha⟩: ∃a:Nat,pr.getD c 0=(a:Int):=⟨(pr.getD c 0).toNat,by omega⟩;have haN:a<fN wb:=by have:=bXz hw hpc;rw [ha] at this;simpa using this
 have hir:=eLz hw (pr.getD c 0);have hinv:=gmN_inv hw haN (by omega);rw [<-ha] at hinv;obtain ⟨i,hi⟩: ∃i,ginv wb (pr.getD c 0)=i:=⟨_,rfl⟩;rw [hi] at hir hinv|-;have hiN:=bXz hw hir;obtain ⟨p2,hp2⟩: ∃p2,List.zipWith (fun x _=>gmul wb x i) pr pr=p2:=⟨_,rfl⟩;have e2: ∀v,evN wb p2 v=gmN wb i.toNat (evN wb pr v):=fun v=>by rw [<-hp2];exact evN_scl hw hir pr v hgp.2
 have d2: ∀j,p2.getD j 0=gmul wb (pr.getD j 0) i:=fun j=>by rw [<-hp2];exact getD_zip (fun x _=>gmul wb x i) (dMz _ _) pr pr j rfl
 have hgp2:Good wb (n+n) p2:=by rw [<-hp2];exact zip_good _ hgp hgp (fun x y _ _=>bHz hw _ _)
 rw [hp2];have hset: ∀i,i≠c->(R.set c p2)[i]?=R[i]?:=fun i hi=>by rw [List.getElem?_set_ne (Ne.symm hi)]
 have hsetc:(R.set c p2)[c]?=some p2:=by rw [List.getElem?_set_self (by rw [hsl,h.len];exact hc)]
 have new: ∀i r,(clrAll wb c c p2 (R.set c p2))[i]?=some r->(i=c/\r=p2)\/(i≠c/\ ∃r0,R[i]?=some r0/\r=List.zipWith (clrF wb (r0.getD c 0)) r0 p2):=by
  intro i r hr;by_cases hic:i=c
  ·subst hic;rw [c6z _ _ _ _ _ _ p2 hsetc,Ya rfl] at hr;exact .inl ⟨rfl,by injection hr with e;exact e.symm⟩
  ·obtain ⟨r0,hr0⟩: ∃r0,R[i]?=some r0:=⟨_,Zf (by have:=(Zk hr).1;rw [cez,List.length_set] at this;exact this)⟩;rw [c6z _ _ _ _ _ _ r0 (by rw [hset i hic];exact hr0),Yb hic] at hr;exact .inr ⟨hic,r0,hr0,by injection hr with e;exact e.symm⟩
 have old: ∀i r0,R[i]?=some r0->i≠c->List.zipWith (clrF wb (r0.getD c 0)) r0 p2∈clrAll wb c c p2 (R.set c p2):=by
  intro i r0 hr0 hic;refine List.mem_iff_getElem?.2 ⟨i,?_⟩;rw [c6z _ _ _ _ _ _ r0 (by rw [hset i hic];exact hr0),Yb hic]
 have oldc:p2∈clrAll wb c c p2 (R.set c p2):=by
  refine List.mem_iff_getElem?.2 ⟨c,?_⟩;rw [c6z _ _ _ _ _ _ p2 hsetc,Ya rfl]
 have goodR: ∀i r0,R[i]?=some r0->Good wb (n+n) r0:=fun i r0 hr0=>h.good r0 (hsm r0 (Zo hr0))
 have eclr: ∀(i:Nat) (r0:List Int) (v:List Nat),R[i]?=some r0->evN wb (List.zipWith (clrF wb (r0.getD c 0)) r0 p2) v=evN wb r0 v^^^gmN wb (r0.getD c 0).toNat (evN wb p2 v):=by
  intro i r0 v hr0;have hg0:=goodR i r0 hr0;exact evN_clr hw (cNz hg0 c) r0 p2 v (hg0.1.trans hgp2.1.symm) hg0.2 hgp2.2
 have prz: ∀j,j<c->pr.getD j 0=0:=fun j hj=>by rw [h.unit k pr hpr j hj,Yb (by omega)]
 have p2z: ∀j,j<c->p2.getD j 0=0:=fun j hj=>by rw [d2,prz j hj,dMz]
 have p2c:p2.getD c 0=1:=by
  refine elz (cNz hgp2 c).1 (by omega) ?_;rw [d2,d4z hpc hir,ha]
  simpa using hinv
 have Runit: ∀i r0,R[i]?=some r0->i≠c-> ∀j,j<c->r0.getD j 0=if i=j then 1 else 0:=by
  intro i r0 hr0 hic j hj;rw [hsw] at hr0;by_cases hik:i=k
  ·rw [Ya hik] at hr0;injection hr0 with e
   subst e;rw [h.unit c q hq j hj,Yb (by omega),Yb (by omega)]
  ·rw [Yb hik,Yb hic] at hr0;exact h.unit i r0 hr0 j hj
 have Rall: ∀r,r∈W->r=pr\/ ∃i,i≠c/\R[i]?=some r:=by
  intro r hr;obtain ⟨i,hi⟩:=List.mem_iff_getElem?.1 hr;by_cases hik:i=k
  ·subst hik;rw [hpr] at hi;injection hi with e;exact .inl e.symm
  ·by_cases hic:i=c
   ·rw [hic,hq] at hi;injection hi with e
    subst e;exact .inr ⟨k,fun e=>hik (hic.trans e.symm),by rw [hsw,Ya rfl]⟩
   ·exact .inr ⟨i,hic,by rw [hsw,Yb hik,Yb hic];exact hi⟩
 intro hg;refine ⟨⟨hg.2.trans h.len,hg.1,?_,?_,?_⟩,rfl⟩
 ·intro r hr;obtain ⟨i,hi⟩:=List.mem_iff_getElem?.1 hr;have z2:evN wb p2 (u++b)=0:=by rw [e2,h.zero pr (Zo hpr),cXz hw]
  rcases new i r hi with ⟨-,rfl⟩|⟨-,r0,hr0,rfl⟩
  ·exact z2
  ·rw [eclr i r0 _ hr0,z2,cXz hw,h.zero r0 (hsm r0 (Zo hr0))];rfl
 ·intro i r hr j hj;rcases new i r hr with ⟨rfl,rfl⟩|⟨hic,r0,hr0,rfl⟩
  ·by_cases hji:j=i
   ·subst hji;rw [p2c,Ya rfl]
   ·rw [p2z j (by omega),Yb (fun e=>hji e.symm)]
  ·have hg0:=goodR i r0 hr0;have hc0:=cNz hg0 c;rw [getD_zip _ (by unfold clrF;rw [epz];rfl) r0 p2 j (hg0.1.trans hgp2.1.symm)];have hd:=cNz hg0 j;have hd2:=cNz hgp2 j
   have key:(clrF wb (r0.getD c 0) (r0.getD j 0) (p2.getD j 0)).toNat=(r0.getD j 0).toNat^^^gmN wb (r0.getD c 0).toNat (p2.getD j 0).toNat:=by
    unfold clrF;rw [bx_toNat hw hd (bHz hw _ _),d4z hc0 hd2]
   have hrng:0<=clrF wb (r0.getD c 0) (r0.getD j 0) (p2.getD j 0):=by unfold clrF;exact (euz hw hd (bHz hw _ _)).1
   by_cases hjc:j=c
   ·subst hjc;rw [Yb hic];refine elz hrng (by omega) ?_;rw [key,p2c];show _^^^gmN wb _ 1=0;rw [gmN_id hw (bXz hw hd),Nat.xor_self]
   ·have hjl:j<c:=by omega
    refine elz hrng (by split<;>omega) ?_;rw [key,p2z j hjl];show _^^^gmN wb _ 0=_;rw [cXz hw,Nat.xor_zero,Runit i r0 hr0 hic j hjl]
 ·intro v hv hin hz0;refine h.inj v hv hin ?_;have z2:evN wb p2 v=0:=hz0 p2 oldc;intro r hr;rcases Rall r hr with rfl|⟨i,hic,hi⟩
  ·have h1:gmN wb a (evN wb p2 v)=0:=by rw [z2,cXz hw]
   have e3:gmN wb a i.toNat=1:=hinv;rw [e2, <-gmN_asc hw haN hiN,e3] at h1;rwa [gmN_idl hw (evN_lt hw r v hgp.2)] at h1
  ·have h1:=hz0 _ (old i r hi hic);rw [eclr i r v hi,z2,cXz hw,Nat.xor_zero] at h1;exact h1
theorem RI.all {n:Nat} {u b:List Nat} : ∀(m c:Nat) (W:List (List Int)),RI wb n u b c W->c+m=n->RI wb n u b n (redF wb m c W c).1/\(redF wb m c W c).2=n
 |0,c,W,h,e=>by
  have:c=n:=by omega
  subst this;exact ⟨h,rfl⟩
 |m+1,c,W,h,e=>by
  have hs:=h.step hw (by omega);unfold redF;rw [Yb (by rw [h.len];omega),hs.2];exact RI.all m (c+1) _ hs.1 (by omega)
end
end Go.Proofs.Xc
end
section
namespace Go.Proofs.Xc
open Go.RowKit Go.Proofs.Pw Go.Proofs.Pl Go.Proofs.Pm
attribute [local go_sem] bfz bgz boz bpz a5z a6z bhz biz
set_option linter.unusedVariables false
set_option linter.unusedSimpArgs false
theorem cxz {wb:Int} (hw:wb=8\/wb=16) {a v:Nat} (ha:a<fN wb) (hv:v<fN wb) (h0:a≠0) (h:gmN wb a v=1):ginv wb (a:Int)=(v:Int):=by
 have hr:=eLz hw (a:Int);obtain ⟨i,hi⟩: ∃i:Nat,ginv wb (a:Int)=(i:Int):=⟨(ginv wb (a:Int)).toNat,by omega⟩;have h1:=gmN_inv hw ha h0;rw [hi,Zu] at h1;have hil:i<fN wb:=by have:=bXz hw hr;rw [hi] at this;simpa using this
 have h2:gmN wb v (gmN wb a i)=v:=by rw [h1,gmN_id hw hv]
 rw [<-gmN_asc hw hv ha,gmN_comm hw hv ha,h,gmN_idl hw hil] at h2;rw [hi,h2]
theorem g16_2:ginv 16 2=34821:=cxz (.inr rfl) (a:=2) (v:=34821) (by decide) (by decide) (by decide) (by decide+kernel)
theorem g16_3:ginv 16 3=61446:=cxz (.inr rfl) (a:=3) (v:=61446) (by decide) (by decide) (by decide) (by decide+kernel)
theorem g16_4:ginv 16 4=52231:=cxz (.inr rfl) (a:=4) (v:=52231) (by decide) (by decide) (by decide) (by decide+kernel)
def awake16.b:List Int:= [97,98,99,100,101,102,103,104,105,106,107,108,109,110,111,112,113,114,115,116,117,118,119,120]
def awake16.l:List (List Int):= [[97,98,99,100,101,102,103,104], [105,106,107,108,109,110,111,112], [113,114,115,116,117,118,119,120], [121,122,123,124,125,126,127,96], [0,0,0,0,0,0,0,235]]
theorem dPz (i:Nat) {S:Nat} {q:Int} {K M:Nat} {L:List (List Int)} (h:((parV S q K M (L.take K))[i]?==(L.drop K)[i]?)=false):verB S q K M L=false:=by
 unfold verB;refine Ze (fun he=> ?_);rw [he] at h;simp at h
theorem parV_0 (S:Nat) (q:Int) (K M:Nat) (data:List (List Int)) (c:List Int) (h:(parM q K M)[0]?=some c):(parV S q K M data)[0]?=some (dotV S (pbits q) c data):=by
 unfold parV;rw [List.getElem?_map,h];rfl
theorem awake16.m2:(parM 2 3 2)[0]?=some [34821,61446,52231] :=by
 have h:(parM 2 3 2)[0]?=some [ginv 16 2,ginv 16 3,ginv 16 4] :=rfl;rw [h,g16_2,g16_3,g16_4]
theorem awake16.m3:(parM 2 2 3)[0]?=some [61446,52231] :=by
 have h:(parM 2 2 3)[0]?=some [ginv 16 3,ginv 16 4] :=rfl;rw [h,g16_3,g16_4]
theorem awake16.v2:verB 8 2 3 2 awake16.l=false:=dPz 0 (by rw [parV_0 8 2 3 2 _ _ awake16.m2];kernel_rfl)
theorem awake16.v3:verB 8 2 2 3 awake16.l=false:=dPz 0 (by rw [parV_0 8 2 2 3 _ _ awake16.m3];kernel_rfl)
theorem awake16.p1:passB 8 1 3 2 awake16.l=true:=by kernel_rfl
theorem awake16.p5:verB 8 5 3 2 awake16.l=false:=dPz 1 kr_
theorem awake16.p6:verB 8 6 3 2 awake16.l=false:=dPz 1 kr_
theorem awake16.q1:verB 8 1 2 3 awake16.l=false:=dPz 0 kr_
theorem awake16.q5:verB 8 5 2 3 awake16.l=false:=dPz 0 kr_
theorem awake16.q6:verB 8 6 2 3 awake16.l=false:=dPz 0 kr_
theorem dpz {S:Nat} {q:Int} {K M:Nat} {L:List (List Int)} (h:verB S q K M L=false):passB S q K M L=false:=by
 unfold passB;rw [h,Bool.and_false,Bool.and_false]
theorem awake16.len: ∀r,r∈awake16.l->r.length=8:=by decide
theorem awake16.t3:Ev (fun k=>bSz.f k awake16.l 3) [1] :=by
 have h:=trial_ev2 3 2 8 awake16.l rfl (by decide) (by decide) awake16.len (by decide)
 have e:(all6.filter fun q=>passB 8 q 3 2 awake16.l)= [1] :=by
  unfold all6;simp only [List.filter_cons,awake16.p1,dpz awake16.v2,dpz awake16.p5,dpz awake16.p6,show passB 8 3 3 2 awake16.l=false from rfl,show passB 8 4 3 2 awake16.l=false from rfl,List.filter_nil];rfl
 rw [e] at h;exact h
theorem awake16.t2:Ev (fun k=>bSz.f k awake16.l 2) [] :=by
 have h:=trial_ev2 2 3 8 awake16.l rfl (by decide) (by decide) awake16.len (by decide)
 have e:(all6.filter fun q=>passB 8 q 2 3 awake16.l)= [] :=by
  unfold all6;simp only [List.filter_cons,dpz awake16.q1,dpz awake16.v3,dpz awake16.q5,dpz awake16.q6,show passB 8 3 2 3 awake16.l=false from rfl,show passB 8 4 2 3 awake16.l=false from rfl,List.filter_nil];rfl
 rw [e] at h;exact h
theorem awake16.t1:Ev (fun k=>bSz.f k [[97], [97]] 1) [5,6] :=by
 have h:=trial_ev2 1 1 1 [[97], [97]] rfl (by decide) (by decide) (by decide) (by decide)
 have e:(all6.filter fun q=>passB 1 q 1 1 [[97], [97]])= [5,6] :=by
  unfold all6;simp only [List.filter_cons,show passB 1 1 1 1 [[97], [97]] =false from rfl,show passB 1 2 1 1 [[97], [97]] =false from rfl,show passB 1 3 1 1 [[97], [97]] =false from rfl,show passB 1 4 1 1 [[97], [97]] =false from rfl,show passB 1 5 1 1 [[97], [97]] =true by kernel_rfl,show passB 1 6 1 1 [[97], [97]] =true by kernel_rfl,List.filter_nil];rfl
 rw [e] at h;exact h
theorem awake16.k3:Ev (fun k=>trial_Pick.f k awake16.l 3) (1,0):=Ev.bind awake16.t3 (Ev.congr (fun _=>rfl) (Ev.now _))
theorem awake16.k1:Ev (fun k=>trial_Pick.f k [[97], [97]] 1) (0,6):=Ev.bind awake16.t1 (Ev.congr (fun _=>rfl) (Ev.now _))
theorem awake16.enc:cSz.f 199 1 3 2 awake16.b=some (awake16.l,0):=by kernel_rfl
theorem i16_1:ginv 16 1=1:=cxz (.inr rfl) (a:=1) (v:=1) (by decide) (by decide) (by decide) (by decide+kernel)
theorem i16_2:ginv 16 2=34821:=cxz (.inr rfl) (a:=2) (v:=34821) (by decide) (by decide) (by decide) (by decide+kernel)
theorem i16_3:ginv 16 3=61446:=cxz (.inr rfl) (a:=3) (v:=61446) (by decide) (by decide) (by decide) (by decide+kernel)
theorem i16_4:ginv 16 4=52231:=cxz (.inr rfl) (a:=4) (v:=52231) (by decide) (by decide) (by decide) (by decide+kernel)
theorem i16_5:ginv 16 5=20482:=cxz (.inr rfl) (a:=5) (v:=20482) (by decide) (by decide) (by decide) (by decide+kernel)
theorem i16_6:ginv 16 6=30723:=cxz (.inr rfl) (a:=6) (v:=30723) (by decide) (by decide) (by decide) (by decide+kernel)
theorem i16_7:ginv 16 7=27502:=cxz (.inr rfl) (a:=7) (v:=27502) (by decide) (by decide) (by decide) (by decide+kernel)
theorem i16_8:ginv 16 8=60934:=cxz (.inr rfl) (a:=8) (v:=60934) (by decide) (by decide) (by decide) (by decide+kernel)
theorem i16_9:ginv 16 9=9946:=cxz (.inr rfl) (a:=9) (v:=9946) (by decide) (by decide) (by decide) (by decide+kernel)
theorem i16_10:ginv 16 10=10241:=cxz (.inr rfl) (a:=10) (v:=10241) (by decide) (by decide) (by decide) (by decide+kernel)
theorem i16_11:ginv 16 11=60305:=cxz (.inr rfl) (a:=11) (v:=60305) (by decide) (by decide) (by decide) (by decide+kernel)
def gtab:Int->Int:=fun x=>if x=1 then 1 else if x=2 then 34821 else if x=3 then 61446 else if x=4 then 52231 else if x=5 then 20482 else if x=6 then 30723 else if x=7 then 27502 else if x=8 then 60934 else if x=9 then 9946 else if x=10 then 10241 else if x=11 then 60305 else 0
theorem gtab_inv (x:Int) (h0:1<=x) (h1:x<12):ginv 16 x=gtab x:=by
 have h:x=1\/x=2\/x=3\/x=4\/x=5\/x=6\/x=7\/x=8\/x=9\/x=10\/x=11:=by omega
 rcases h with rfl|rfl|rfl|rfl|rfl|rfl|rfl|rfl|rfl|rfl|rfl
 ·exact i16_1
 ·exact i16_2
 ·exact i16_3
 ·exact i16_4
 ·exact i16_5
 ·exact i16_6
 ·exact i16_7
 ·exact i16_8
 ·exact i16_9
 ·exact i16_10
 ·exact i16_11
theorem xor_small: ∀m:Nat,m<5-> ∀a:Nat,a<m-> ∀b:Nat,b<8->1<=Go.bits .xor .i64 ((0+a:Nat):Int) ((m+b:Nat):Int)/\Go.bits .xor .i64 ((0+a:Nat):Int) ((m+b:Nat):Int)<12:=by decide+kernel
def tabM (k m:Nat):List (List Int):=(runL 0 m).map fun a=>(runL m k).map fun b=>gtab (Go.bits .xor .i64 a b)
theorem par2_tab (k m:Nat) (hk:k<9) (hm:m<5):parM 2 k m=tabM k m:=by
 show cauM 16 (runL 0 m) (runL m k)=tabM k m;unfold cauM tabM runL;refine List.map_congr_left (fun a ha=>List.map_congr_left (fun b hb=> ?_));obtain ⟨i,hi,rfl⟩:=List.mem_map.1 ha;obtain ⟨j,hj,rfl⟩:=List.mem_map.1 hb;have:=xor_small m hm i (by simpa using hi) j (by have:=List.mem_range.1 hj;omega);exact gtab_inv _ this.1 this.2
theorem rp2_1: ∀m,m<4->a2z.f 3000 16 69643 1 ((m+1:Nat):Int)=some (tabM 1 (m+1),true):=by decide+kernel
theorem rp2_2: ∀m,m<4->a2z.f 3000 16 69643 2 ((m+1:Nat):Int)=some (tabM 2 (m+1),true):=by decide+kernel
theorem rp2_3: ∀m,m<4->a2z.f 3000 16 69643 3 ((m+1:Nat):Int)=some (tabM 3 (m+1),true):=by decide+kernel
theorem rp2_4: ∀m,m<4->a2z.f 3000 16 69643 4 ((m+1:Nat):Int)=some (tabM 4 (m+1),true):=by decide+kernel
theorem rp2_5: ∀m,m<4->a2z.f 3000 16 69643 5 ((m+1:Nat):Int)=some (tabM 5 (m+1),true):=by decide+kernel
theorem rp2_6: ∀m,m<4->a2z.f 3000 16 69643 6 ((m+1:Nat):Int)=some (tabM 6 (m+1),true):=by decide+kernel
theorem rp2_7: ∀m,m<4->a2z.f 3000 16 69643 7 ((m+1:Nat):Int)=some (tabM 7 (m+1),true):=by decide+kernel
theorem rp2_8: ∀m,m<4->a2z.f 3000 16 69643 8 ((m+1:Nat):Int)=some (tabM 8 (m+1),true):=by decide+kernel
theorem rpar_2 (K M:Nat) (h1:1<=K) (h2:K<=8) (h3:1<=M) (h4:M<=4):a2z.f 3000 16 69643 (K:Int) (M:Int)=some (tabM K M,true):=by
 obtain ⟨m,rfl⟩: ∃m,M=m+1:=⟨M - 1,by omega⟩;have hk:K=1\/K=2\/K=3\/K=4\/K=5\/K=6\/K=7\/K=8:=by omega
 rcases hk with rfl|rfl|rfl|rfl|rfl|rfl|rfl|rfl
 ·exact rp2_1 m (by omega)
 ·exact rp2_2 m (by omega)
 ·exact rp2_3 m (by omega)
 ·exact rp2_4 m (by omega)
 ·exact rp2_5 m (by omega)
 ·exact rp2_6 m (by omega)
 ·exact rp2_7 m (by omega)
 ·exact rp2_8 m (by omega)
theorem rp3_1: ∀m,m<3->aqz.f 3000 8 285 1 ((m+1:Nat):Int)=some (isalM 8 (m+1) 1,true):=by decide+kernel
theorem rp3_2: ∀m,m<3->aqz.f 3000 8 285 2 ((m+1:Nat):Int)=some (isalM 8 (m+1) 2,true):=by decide+kernel
theorem rp3_3: ∀m,m<3->aqz.f 3000 8 285 3 ((m+1:Nat):Int)=some (isalM 8 (m+1) 3,true):=by decide+kernel
theorem rp3_4: ∀m,m<3->aqz.f 3000 8 285 4 ((m+1:Nat):Int)=some (isalM 8 (m+1) 4,true):=by decide+kernel
theorem rp3_5: ∀m,m<3->aqz.f 3000 8 285 5 ((m+1:Nat):Int)=some (isalM 8 (m+1) 5,true):=by decide+kernel
theorem rp3_6: ∀m,m<3->aqz.f 3000 8 285 6 ((m+1:Nat):Int)=some (isalM 8 (m+1) 6,true):=by decide+kernel
theorem rp3_7: ∀m,m<3->aqz.f 3000 8 285 7 ((m+1:Nat):Int)=some (isalM 8 (m+1) 7,true):=by decide+kernel
theorem rp3_8: ∀m,m<3->aqz.f 3000 8 285 8 ((m+1:Nat):Int)=some (isalM 8 (m+1) 8,true):=by decide+kernel
theorem rpar_3 (K M:Nat) (h1:1<=K) (h2:K<=8) (h3:1<=M) (h4:M<=3):aqz.f 3000 8 285 (K:Int) (M:Int)=some (isalM 8 M K,true):=by
 obtain ⟨m,rfl⟩: ∃m,M=m+1:=⟨M - 1,by omega⟩;have hk:K=1\/K=2\/K=3\/K=4\/K=5\/K=6\/K=7\/K=8:=by omega
 rcases hk with rfl|rfl|rfl|rfl|rfl|rfl|rfl|rfl
 ·exact rp3_1 m (by omega)
 ·exact rp3_2 m (by omega)
 ·exact rp3_3 m (by omega)
 ·exact rp3_4 m (by omega)
 ·exact rp3_5 m (by omega)
 ·exact rp3_6 m (by omega)
 ·exact rp3_7 m (by omega)
 ·exact rp3_8 m (by omega)
theorem rp4_1: ∀m,m<4->a3z.f 3000 8 285 1 ((m+1:Nat):Int)=some (cauM 8 (runL 1 (m+1)) (runL 0 1),true):=by decide+kernel
theorem rp4_2: ∀m,m<4->a3z.f 3000 8 285 2 ((m+1:Nat):Int)=some (cauM 8 (runL 2 (m+1)) (runL 0 2),true):=by decide+kernel
theorem rp4_3: ∀m,m<4->a3z.f 3000 8 285 3 ((m+1:Nat):Int)=some (cauM 8 (runL 3 (m+1)) (runL 0 3),true):=by decide+kernel
theorem rp4_4: ∀m,m<4->a3z.f 3000 8 285 4 ((m+1:Nat):Int)=some (cauM 8 (runL 4 (m+1)) (runL 0 4),true):=by decide+kernel
theorem rp4_5: ∀m,m<4->a3z.f 3000 8 285 5 ((m+1:Nat):Int)=some (cauM 8 (runL 5 (m+1)) (runL 0 5),true):=by decide+kernel
theorem rp4_6: ∀m,m<4->a3z.f 3000 8 285 6 ((m+1:Nat):Int)=some (cauM 8 (runL 6 (m+1)) (runL 0 6),true):=by decide+kernel
theorem rp4_7: ∀m,m<4->a3z.f 3000 8 285 7 ((m+1:Nat):Int)=some (cauM 8 (runL 7 (m+1)) (runL 0 7),true):=by decide+kernel
theorem rp4_8: ∀m,m<4->a3z.f 3000 8 285 8 ((m+1:Nat):Int)=some (cauM 8 (runL 8 (m+1)) (runL 0 8),true):=by decide+kernel
theorem rpar_4 (K M:Nat) (h1:1<=K) (h2:K<=8) (h3:1<=M) (h4:M<=4):a3z.f 3000 8 285 (K:Int) (M:Int)=some (cauM 8 (runL K M) (runL 0 K),true):=by
 obtain ⟨m,rfl⟩: ∃m,M=m+1:=⟨M - 1,by omega⟩;have hk:K=1\/K=2\/K=3\/K=4\/K=5\/K=6\/K=7\/K=8:=by omega
 rcases hk with rfl|rfl|rfl|rfl|rfl|rfl|rfl|rfl
 ·exact rp4_1 m (by omega)
 ·exact rp4_2 m (by omega)
 ·exact rp4_3 m (by omega)
 ·exact rp4_4 m (by omega)
 ·exact rp4_5 m (by omega)
 ·exact rp4_6 m (by omega)
 ·exact rp4_7 m (by omega)
 ·exact rp4_8 m (by omega)
theorem rp5_1: ∀m,m<4->aZz.f 3000 8 285 1 ((m+1:Nat):Int)=some (sysM 8 1 (m+1),true):=by decide+kernel
theorem rp5_2: ∀m,m<4->aZz.f 3000 8 285 2 ((m+1:Nat):Int)=some (sysM 8 2 (m+1),true):=by decide+kernel
theorem rp5_3: ∀m,m<4->aZz.f 3000 8 285 3 ((m+1:Nat):Int)=some (sysM 8 3 (m+1),true):=by decide+kernel
theorem rp5_4: ∀m,m<4->aZz.f 3000 8 285 4 ((m+1:Nat):Int)=some (sysM 8 4 (m+1),true):=by decide+kernel
theorem rp5_5: ∀m,m<4->aZz.f 3000 8 285 5 ((m+1:Nat):Int)=some (sysM 8 5 (m+1),true):=by decide+kernel
theorem rp5_6: ∀m,m<4->aZz.f 3000 8 285 6 ((m+1:Nat):Int)=some (sysM 8 6 (m+1),true):=by decide+kernel
theorem rp5_7: ∀m,m<4->aZz.f 3000 8 285 7 ((m+1:Nat):Int)=some (sysM 8 7 (m+1),true):=by decide+kernel
theorem rp5_8: ∀m,m<4->aZz.f 3000 8 285 8 ((m+1:Nat):Int)=some (sysM 8 8 (m+1),true):=by decide+kernel
theorem rpar_5 (K M:Nat) (h1:1<=K) (h2:K<=8) (h3:1<=M) (h4:M<=4):aZz.f 3000 8 285 (K:Int) (M:Int)=some (sysM 8 K M,true):=by
 obtain ⟨m,rfl⟩: ∃m,M=m+1:=⟨M - 1,by omega⟩;have hk:K=1\/K=2\/K=3\/K=4\/K=5\/K=6\/K=7\/K=8:=by omega
 rcases hk with rfl|rfl|rfl|rfl|rfl|rfl|rfl|rfl
 ·exact rp5_1 m (by omega)
 ·exact rp5_2 m (by omega)
 ·exact rp5_3 m (by omega)
 ·exact rp5_4 m (by omega)
 ·exact rp5_5 m (by omega)
 ·exact rp5_6 m (by omega)
 ·exact rp5_7 m (by omega)
 ·exact rp5_8 m (by omega)
theorem rof_eq (q:Int):aXz.f q=blz.f q:=by
 unfold aXz.f blz.f;rfl
theorem dwz (q k m:Int):bez.f q k m=aGz.f q k m:=by
 unfold bez.f aGz.f;rw [rof_eq]
theorem may_m3 {k m:Int} (h:aGz.f 3 k m=some true):m<=3:=by
 have hm:=cJz h;unfold aGz.f at h;rw [show blz.f 3=some ((⟨#[105,114]⟩:ByteArray),8,285,105,3,true) from rfl,Zl] at h;dsimp only at h;rw [Ya rfl,Ya (by omega),Ya (by omega),Ya (by omega)] at h;exact Zc (Zn h)
theorem rof_ev (q:Int) (h1:1<=q) (h2:q<=6): ∃(t:ByteArray) (l mm:Int),aXz.f q=some (t,pbits q,fpoly (pbits q),l,mm,true):=by
 have hq:q=1\/q=2\/q=3\/q=4\/q=5\/q=6:=by omega
 rcases hq with rfl|rfl|rfl|rfl|rfl|rfl<;>exact ⟨_,_,_,rfl⟩
theorem rpar_ev (q:Int) (K M:Nat) (hmay:aGz.f q (K:Int) (M:Int)=some true):Ev (fun k=>bqz.f k q (K:Int) (M:Int)) (parM q K M,true):=by
 obtain ⟨p1,p2,k1,k2,m1,m2⟩:=cJz hmay;have hgd:=dYz q K M (by omega) (by omega) (by omega) (by omega);have hq:q=1\/q=2\/q=3\/q=4\/q=5\/q=6:=by omega
 have hM3:q=3->M<=3:=fun e=>by rw [e] at hmay;have:=may_m3 hmay;omega
 refine Ev.of (fun k=>bqz.mono _ _ _ k) (k:=3000) ?_;unfold bqz.f;rw [dwz,hmay,Zl,Ya rfl];rcases hq with rfl|rfl|rfl|rfl|rfl|rfl
 ·rw [show aXz.f 1=some ((⟨#[106,118]⟩:ByteArray),8,285,106,4,true) from rfl,Zl,Ya rfl];dsimp only;rw [rpar_1 K M (by omega) (by omega) (by omega) (by omega),Zl];rfl
 ·rw [show aXz.f 2=some ((⟨#[106,99]⟩:ByteArray),16,69643,106,4,true) from rfl,Zl,Yb (by decide),Ya rfl];dsimp only;rw [rpar_2 K M (by omega) (by omega) (by omega) (by omega),Zl,par2_tab K M (by omega) (by omega)]
 ·rw [show aXz.f 3=some ((⟨#[105,114]⟩:ByteArray),8,285,105,3,true) from rfl,Zl,Yb (by decide),Yb (by decide),Ya rfl];dsimp only;rw [rpar_3 K M (by omega) (by omega) (by omega) (hM3 rfl),Zl];rfl
 ·rw [show aXz.f 4=some ((⟨#[105,99]⟩:ByteArray),8,285,105,4,true) from rfl,Zl,Yb (by decide),Yb (by decide),Yb (by decide),Ya rfl];dsimp only;rw [rpar_4 K M (by omega) (by omega) (by omega) (by omega),Zl];rfl
 all_goals
  have hsy:((sysM 8 K M).drop K).length=M:=hgd.2;rw [List.length_drop] at hsy
 ·rw [show aXz.f 5=some ((⟨#[98,98]⟩:ByteArray),8,285,98,4,true) from rfl,Zl,Yb (by decide),Yb (by decide),Yb (by decide),Yb (by decide)];dsimp only;rw [rpar_5 K M (by omega) (by omega) (by omega) (by omega),Zl,Ya (by omega),Ya (by dsimp only;omega),Zu];rfl
 ·rw [show aXz.f 6=some ((⟨#[107,112]⟩:ByteArray),8,285,112,4,true) from rfl,Zl,Yb (by decide),Yb (by decide),Yb (by decide),Yb (by decide)];dsimp only;rw [rpar_5 K M (by omega) (by omega) (by omega) (by omega),Zl,Ya (by omega),Ya (by dsimp only;omega),Zu];rfl
def evenP (wb:Int) (L:Nat) (r:List Int):Bool:=r.length==L&&evB wb r
theorem rd1_at (l:List (List Int)) (i:Nat) (r:List Int) (h:l[i]?=some r):rd_L1 l (i:Int)=r:=by
 unfold rd_L1;rw [Zu,Zm,h];rfl
theorem reven_l (wb : Int) (hw : wb = 8 \/ wb = 16) (L : Nat) (l : List (List Int)) (r0 : List Int) (h0 : l[0]? = some r0) (hL : r0.length = L) (hl : l.length <= 1000000) (hr : ∀ r, r ∈ l -> r.length <= 1000000) (t : ByteArray) (b c d : Int) :
  ∀(m i:Nat),i+m=l.length->Ev (fun k=>baz.l0 k l (i:Int) t wb b c d) ((l.drop i).all (evenP wb L)):=by
 intro m
 induction m with
 |zero=>
  intro i hi;refine Ev.step (f:=fun _=>some true) (fun k=> ?_) ?_
  ·rw [baz.l0,Yb (by omega)]
  ·rw [List.drop_of_length_le (by omega)];exact Ev.now _
 |succ m ih=>
  intro i hi;obtain ⟨r,hri⟩: ∃r,l[i]?=some r:=⟨_,Zf (by omega)⟩;have hrl:=hr r (Zo hri);have h0':rd_L1 l 0=r0:=rd1_at l 0 r0 h0
  have hd:l.drop i=r::l.drop (i+1):=by
   rw [List.drop_eq_getElem_cons (by omega)];congr 1
   exact Zn ((Zf (by omega)).symm.trans hri)
  rw [hd,List.all_cons];by_cases c1:r.length=L
  ·by_cases c2:evB wb r=true
   ·rw [show evenP wb L r=true by unfold evenP;rw [c2,c1];simp,Bool.true_and];refine Ev.step (fun k=> ?_) (ih (i+1) (by omega))
    have c3:Int.tmod (8*(r.length:Int)) wb=0:=by
     rw [Int.tmod_eq_emod_of_nonneg (by omega)];unfold evB at c2;have c2:=eq_of_beq c2;rcases hw with rfl|rfl
     ·omega
     ·rw [show wN 16=2 from rfl] at c2;omega
    rw [baz.l0,Ya (by omega),Ya (by omega),Ya (by omega),rd1_at l i r hri,h0',Ya (by omega),Yb (by omega),w64 (by omega) (by omega),Ya c3,w64 (by omega) (by omega),show ((i:Int)+1)=((i+1:Nat):Int) by omega]
   ·rw [show evenP wb L r=false by unfold evenP;rw [Bool.eq_false_iff.2 c2];simp,Bool.false_and];refine Ev.step (f:=fun _=>some false) (fun k=> ?_) (Ev.now _)
    have c3: ¬Int.tmod (8*(r.length:Int)) wb=0:=by
     rw [Int.tmod_eq_emod_of_nonneg (by omega)];intro h;apply c2
     unfold evB;rcases hw with rfl|rfl
     ·rw [show wN 8=1 from rfl,Nat.mod_one];rfl
     ·rw [show wN 16=2 from rfl,beq_iff_eq];omega
    rw [baz.l0,Ya (by omega),Ya (by omega),Ya (by omega),rd1_at l i r hri,h0',Ya (by omega),Yb (by omega),w64 (by omega) (by omega),Yb c3]
  ·rw [show evenP wb L r=false by unfold evenP;rw [beq_eq_false_iff_ne.2 c1];simp,Bool.false_and];refine Ev.step (f:=fun _=>some false) (fun k=> ?_) (Ev.now _);rw [baz.l0,Ya (by omega),Ya (by omega),Ya (by omega),rd1_at l i r hri,h0',Yb (by omega)]
theorem reven_ev (q : Int) (h1 : 1 <= q) (h2 : q <= 6) (x y : Int) (l : List (List Int)) (L : Nat) (r0 : List Int) (h0 : l[0]? = some r0) (hL : r0.length = L) (hl : l.length <= 1000000) (hr : ∀ r, r ∈ l -> r.length <= 1000000) :
  Ev (fun k=>baz.f k q x y l) (l.all (evenP (pbits q) L)):=by
 obtain ⟨t,b,c,he⟩:=rof_ev q h1 h2;refine Ev.congr (fun k=> ?_) (reven_l (pbits q) (egz q) L l r0 h0 hL hl hr t (fpoly (pbits q)) b c l.length 0 (by omega));unfold baz.f;rw [he,Zl];rfl
theorem rpar_l (q : Int) (K M L : Nat) (P : List (List Nat)) (hL : L <= 1000000) (hd : L % wN (pbits q) = 0) (hP : ∀ r, r ∈ P -> r.length = L /\ ∀ x, x ∈ r -> x < 256) (h0 : 0 < P.length) (hn : P.length <= 1000) (rows : List (List Int)) (hrl : rows.length <= 1000) (hrows : ∀ r, r ∈ rows -> r.length = P.length /\ ∀ x, x ∈ r -> inF (pbits q) x = true) (t : ByteArray) (b c : Int) :
  ∀(m i:Nat),i+m=rows.length->Ev (fun k=>aoz.l0 k (P.map castN) rows ((rows.take i).map fun r=>castN (dotN L (pbits q) r P)) (i:Int) t (pbits q) (fpoly (pbits q)) b c) (rows.map (fun r=>castN (dotN L (pbits q) r P)),0):=by
 intro m
 induction m with
 |zero=>
  intro i hi;refine Ev.step (f:=fun _=>some (rows.map (fun r=>castN (dotN L (pbits q) r P)),0)) (fun k=> ?_) (Ev.now _);rw [aoz.l0,Yb (by omega),List.take_of_length_le (by omega)]
 |succ m ih=>
  intro i hi;obtain ⟨r,hri⟩: ∃r,rows[i]?=some r:=⟨_,Zf (by omega)⟩;have hrr:=hrows r (Zo hri)
  have e1:rd_L4 rows (i:Int)=r:=by
   unfold rd_L4;rw [Zu,Zm,hri];rfl
  have hnext:=ih (i+1) (by omega);rw [List.take_add_one,hri,Option.toList_some,List.map_append,List.map_singleton] at hnext;refine Ev.step (f:=fun k=>(alz.f k (pbits q) (fpoly (pbits q)) r (P.map castN)).bind fun u=>if ((rows.take i).map fun r=>castN (dotN L (pbits q) r P)).length<5864062014805 then aoz.l0 k (P.map castN) rows (((rows.take i).map fun r=>castN (dotN L (pbits q) r P))++ [u.1]) (wrap64 ((i:Int)+1)) t (pbits q) (fpoly (pbits q)) b c else none) (fun k=> ?_) (Ev.bind (rdot_ev (egz q) L hL hd r P hrr.1 hn h0 hrr.2 hP) (Ev.congr (fun k=> ?_) hnext))
  ·rw [aoz.l0,Ya (by omega),Ya (by omega),e1]
  ·dsimp only;rw [Ya (by rw [List.length_map,List.length_take];omega),w64 (by omega) (by omega),show ((i:Int)+1)=((i+1:Nat):Int) by omega]
theorem bytes_nat (l:List (List Int)) (hb: ∀r,r∈l-> ∀x,x∈r->0<=x/\x<=255): ∃P:List (List Nat),l=P.map castN/\ ∀r,r∈P-> ∀x,x∈r->x<256:=by
 induction l with
 |nil=>exact ⟨[],rfl,fun r h=>by simp at h⟩
 |cons a l ih=>
  obtain ⟨P,e,h⟩:=ih (fun r hr=>hb r (List.mem_cons_of_mem _ hr));obtain ⟨n,hn,hn2⟩:=isB_of a (hb a (List.mem_cons_self ..));refine ⟨n::P,?_,fun r hr=> ?_⟩
  ·rw [e,hn];rfl
  ·rcases List.mem_cons.1 hr with rfl|hr
   ·exact hn2
   ·exact h r hr
theorem rpar11 (q x y : Int) (l : List (List Int)) (hl : l.length <= 1000) (hr : ∀ r, r ∈ l -> r.length <= 1000000) (hb : ∀ r, r ∈ l -> ∀ x, x ∈ r -> 0 <= x /\ x <= 255) :
  ∃(p:List (List Int)) (e:Int),Ev (fun k=>aoz.f k q x y l) (p,e)/\Ev (fun k=>azz.f k q x y l) (p,e)/\p.length<=1000/\(∀r,r∈p->r.length<=1000000)/\(e=0\/e=1)/\(∀r,r∈p-> ∀x,x∈r->0<=x/\x<=255):=by
 have hbad: ∀(f:Nat->Option (List (List Int)×Int)),Ev f ([],1)->Ev (fun k=>azz.f k q x y l) ([],1)->Ev (fun k=>f k) (([] :List (List Int)),(1:Int))/\Ev (fun k=>azz.f k q x y l) (([] :List (List Int)),(1:Int))/\([] :List (List Int)).length<=1000/\(∀r,r∈([] :List (List Int))->r.length<=1000000)/\((1:Int)=0\/(1:Int)=1)/\(∀r,r∈([] :List (List Int))-> ∀x,x∈r->0<=x/\x<=255):=
  fun f h1 h2=>⟨h1,h2,Nat.zero_le _,fun r h=>by simp at h, .inr rfl,fun r h=>by simp at h⟩
 obtain ⟨mb,hmb⟩:=ejz q x y;have hj: ∀(a b c:Int),Ev (fun k=>aoz.j0 k l true a b c) ([],1):=fun a b c=>Ev.step (f:=fun _=>some ([],1)) (fun k=>by rw [aoz.j0,Ya rfl]) (Ev.now _)
 cases mb with
 |false=>
  refine ⟨[],1,hbad _ (Ev.congr (fun k=> ?_) (hj q x y)) (Ev.congr (fun k=> ?_) (Ev.now _))⟩
  ·unfold aoz.f;rw [dwz,hmb,Zl,Yb (by decide)]
  ·unfold azz.f;rw [hmb,Zl,Yb (by decide)]
 |true=>
  obtain ⟨p1,p2,k1,k2,m1,m2⟩:=cJz hmb;obtain ⟨K,rfl⟩: ∃K:Nat,x=K:=⟨x.toNat,by omega⟩;obtain ⟨M,rfl⟩: ∃M:Nat,y=M:=⟨y.toNat,by omega⟩;have hgd:=dYz q K M (by omega) (by omega) (by omega) (by omega);by_cases hlen:(l.length:Int)=(K:Int)
  ·obtain ⟨r0,h0⟩: ∃r,l[0]?=some r:=⟨_,Zf (by omega)⟩;have hr0:=hr r0 (Zo h0);obtain ⟨L,hL⟩: ∃L,r0.length=L:=⟨_,rfl⟩;have hev:=reven_ev q p1 p2 (K:Int) (M:Int) l L r0 h0 hL (by omega) hr
   have hsm:azz.small l=true:=by
    simp only [azz.small,Bool.and_eq_true,decide_eq_true_eq,List.all_eq_true];exact ⟨by omega,hr⟩
   by_cases hall:l.all (evenP (pbits q) L)=true
   ·have hall' : ∀ r, r ∈ l -> r.length = L /\ r.length % wN (pbits q) = 0 := fun r hm => by
     have:=List.all_eq_true.1 hall r hm;unfold evenP evB at this
     simpa using this
    have hLd:L % wN (pbits q)=0:=by
     have:=hall' r0 (Zo h0);rw [this.1] at this;exact this.2
    have h2:=par_ev q K M L l hmb (by omega) (by omega) hLd (fun r hm=>(hall' r hm).1);obtain ⟨P,hPe,hP⟩:=bytes_nat l hb;have hPl:P.length=l.length:=by rw [hPe,List.length_map]
    have hPP: ∀r,r∈P->r.length=L/\ ∀x,x∈r->x<256:=fun r hm=>⟨by
     have:=(hall' (castN r) (by rw [hPe];exact List.mem_map_of_mem hm)).1
     rwa [bOz] at this,hP r hm⟩
    have hrowsP: ∀r,r∈parM q K M->r.length=P.length/\ ∀x,x∈r->inF (pbits q) x=true:=fun r hm=>by
     have:=hgd.1 r hm;refine ⟨by rw [this.1];omega,fun z hz=> ?_⟩;have:=this.2 z hz;unfold inF;rw [Zd this.1,Zd this.2];rfl
    have hpv:parV L q K M l=(parM q K M).map (fun r=>castN (dotN L (pbits q) r P)):=by
     unfold parV;refine List.map_congr_left (fun r hm=> ?_);rw [hPe];exact dotV_nat (egz q) L r P (fun r hr=>⟨(hPP r hr).2,by rw [(hPP r hr).1];exact hLd⟩)
    obtain ⟨t,b,c,he⟩:=rof_ev q p1 p2;have h3:=rpar_l q K M L P (by omega) hLd hPP (by omega) (by omega) (parM q K M) (by rw [hgd.2];omega) hrowsP t b c (parM q K M).length 0 (by omega);rw [<-hPe, <-hpv] at h3
    have hvl: ∀r,r∈parV L q K M l->r.length=L:=by
     intro r hm;unfold parV at hm;obtain ⟨c, -,rfl⟩:=List.mem_map.1 hm;exact dotV_len hLd (fun r hm=>(hall' r hm).1)
    refine ⟨parV L q K M l,0,?_,h2,?_,fun r hm=>by rw [hvl r hm];omega, .inl rfl,?_⟩
    ·refine Ev.congr (fun k=>by unfold aoz.f;rw [dwz,hmb,Zl,Ya rfl,Ya hlen]) ?_;refine Ev.bind hev ?_;rw [hall];refine Ev.step (f:=fun k=>(bqz.f k q (K:Int) (M:Int)).bind fun u=>aoz.l0 k l u.1 ([] :List (List Int)) 0 t (pbits q) (fpoly (pbits q)) b c) (fun k=> ?_) (Ev.bind (rpar_ev q K M hmb) h3);show aoz.j0 (k+1) l false q (K:Int) (M:Int)=_;rw [aoz.j0,Yb (by decide),he,Zl]
    ·rw [parV_len L q K M l hmb];omega
    ·rw [hpv];intro r hm z hz;obtain ⟨c, -,rfl⟩:=List.mem_map.1 hm;unfold castN at hz;obtain ⟨w,hw,rfl⟩:=List.mem_map.1 hz;have:=dotN_lt L (pbits q) c P w hw;omega
   ·refine ⟨[],1,hbad _ ?_ ?_⟩
    ·refine Ev.congr (fun k=>by unfold aoz.f;rw [dwz,hmb,Zl,Ya rfl,Ya hlen]) ?_;refine Ev.bind hev ?_;rw [Bool.eq_false_iff.2 hall];exact hj q (K:Int) (M:Int)
    ·obtain ⟨c, rest, hc⟩ : ∃ c rest, parM q K M = c :: rest := by
      cases e:parM q K M with
      |nil=>rw [e] at hgd;simp at hgd;omega
      |cons c rest=>exact ⟨c,rest,rfl⟩
     have hcl:=(hgd.1 c (by rw [hc];exact List.mem_cons_self ..)).1
     have hbadD:Ev (fun k=>dotB k (pbits q) c l) ([],1):=by
      by_cases he:l.all (evB (pbits q))=true
      ·have hex : ∃ r, r ∈ l /\ r.length ≠ L := by
        apply Classical.byContradiction
        intro hno;apply hall
        rw [List.all_eq_true];intro r hm;have h1:=List.all_eq_true.1 he r hm;have h2:r.length=L:=Classical.byContradiction fun h=>hno ⟨r,hm,h⟩
        unfold evenP;rw [h1,h2];simp
       obtain ⟨r,hm,hne⟩:=hex;obtain ⟨j,hj⟩:=List.getElem?_of_mem hm;exact dotB_bad (pbits q) c l L (by omega) (by omega) hr r0 r h0 hL j hj hne
      ·unfold dotB;exact Ev.congr (fun k=>by rw [Yb he]) (Ev.now _)
     refine Ev.congr (f:=fun k=>(dotB k (pbits q) c l).bind fun t=>if t.2=0 then azz.l k (pbits q) l rest ([] ++ [t.1]) else some ([],1)) (fun k=> ?_) (Ev.bind hbadD (Ev.congr (fun k=>by rw [Yb (by decide)]) (Ev.now _)));unfold azz.f;rw [hmb,Zl,Ya rfl,Ya hlen,Ya hsm,Zu,Zu,hc];simp only [azz.l]
  ·refine ⟨[],1,hbad _ (Ev.congr (fun k=> ?_) (hj q (K:Int) (M:Int))) (Ev.congr (fun k=> ?_) (Ev.now _))⟩
   ·unfold aoz.f;rw [dwz,hmb,Zl,Ya rfl,Yb hlen]
   ·unfold azz.f;rw [hmb,Zl,Ya rfl,Yb hlen]
theorem byt_inj: ∀(x y:List Int),(∀z,z∈x->0<=z/\z<=255)->(∀z,z∈y->0<=z/\z<=255)->(x.map fun n:Int=>UInt8.ofNat n.toNat)=(y.map fun n:Int=>UInt8.ofNat n.toNat)->x=y
 | [], [],_,_,_=>rfl
 | [],_::_,_,_,h=>by simp at h
 |_::_, [],_,_,h=>by simp at h
 |a::x,b::y,hx,hy,h=>by
  rw [List.map_cons,List.map_cons] at h;injection h with h1 h2
  have ha:=hx a (List.mem_cons_self ..);have hb:=hy b (List.mem_cons_self ..)
  have h3:a.toNat=b.toNat:=by
   have h4:=congrArg UInt8.toNat h1;rw [UInt8.toNat_ofNat',UInt8.toNat_ofNat',Nat.mod_eq_of_lt (by omega),Nat.mod_eq_of_lt (by omega)] at h4;exact h4
  rw [byt_inj x y (fun z hz=>hx z (List.mem_cons_of_mem _ hz)) (fun z hz=>hy z (List.mem_cons_of_mem _ hz)) h2,show a=b by omega]
theorem str_inj (x y:List Int) (hx: ∀z,z∈x->0<=z/\z<=255) (hy: ∀z,z∈y->0<=z/\z<=255) (h:(strOfNums x).toList=(strOfNums y).toList):x=y:=by
 rw [Lib.strOfNums_toList,Lib.strOfNums_toList] at h;exact byt_inj x y hx hy h
theorem rsame_l (p q : List (List Int)) (n : Nat) (hp : p.length = n) (hq : q.length = n) (hn : n <= 1000000) (hpb : ∀ r, r ∈ p -> ∀ z, z ∈ r -> 0 <= z /\ z <= 255) (hqb : ∀ r, r ∈ q -> ∀ z, z ∈ r -> 0 <= z /\ z <= 255) :
  ∀(m i:Nat),i+m=n->Ev (fun k=>aUz.l0 k p q (i:Int)) (decide (p.drop i=q.drop i)):=by
 intro m
 induction m with
 |zero=>
  intro i hi;refine Ev.step (f:=fun _=>some true) (fun k=> ?_) ?_
  ·rw [aUz.l0,Yb (by omega)]
  ·rw [List.drop_of_length_le (by omega),List.drop_of_length_le (by omega)];exact Ev.now _
 |succ m ih=>
  intro i hi;have hip:i<p.length:=by omega
  have hiq:i<q.length:=by omega
  have e1:p.getD (i:Int).toNat [] =p[i] :=by rw [Zu,Zm,Zf hip];rfl
  have e2:q.getD (i:Int).toNat [] =q[i] :=by rw [Zu,Zm,Zf hiq];rfl
  have d1:=List.drop_eq_getElem_cons hip;have d2:=List.drop_eq_getElem_cons hiq;by_cases h:p[i] =q[i]
  ·refine Ev.step (f:=fun k=>aUz.l0 k p q ((i+1:Nat):Int)) (fun k=> ?_) ?_
   ·rw [aUz.l0,Ya (by omega),Ya (by omega),Ya (by omega),e1,e2,Ya (by rw [h]),dEz (by omega)]
   ·have:=ih (i+1) (by omega);rw [d1,d2];rw [show decide (p[i] ::p.drop (i+1)=q[i] ::q.drop (i+1))=decide (p.drop (i+1)=q.drop (i+1)) by rw [h];simp only [List.cons.injEq,true_and]];exact this
  ·refine Ev.step (f:=fun _=>some false) (fun k=> ?_) ?_
   ·rw [aUz.l0,Ya (by omega),Ya (by omega),Ya (by omega),e1,e2,Yb (fun e=>h (str_inj _ _ (hpb _ (List.getElem_mem _)) (hqb _ (List.getElem_mem _)) e))]
   ·rw [d1,d2,Ze (by intro hh;injection hh with h1 _;exact h h1)];exact Ev.now _
theorem rsame_dec (p q:List (List Int)) (hn:p.length<=1000000) (hpb: ∀r,r∈p-> ∀z,z∈r->0<=z/\z<=255) (hqb: ∀r,r∈q-> ∀z,z∈r->0<=z/\z<=255):Ev (fun k=>aUz.f k p q) (decide (p=q)):=by
 by_cases hl:p.length=q.length
 ·have h:=rsame_l p q p.length rfl hl.symm hn hpb hqb p.length 0 (by omega);refine Ev.congr (fun k=> ?_) (by simpa using h);unfold aUz.f;rw [Ya (by omega)]
 ·refine Ev.congr (f:=fun _=>some false) (fun k=> ?_) ?_
  ·unfold aUz.f;rw [Yb (by omega)]
  ·rw [Ze (by rintro rfl;exact hl rfl)];exact Ev.now _
theorem rver11 (q x y : Int) (l : List (List Int)) (hl : l.length <= 1000) (hr : ∀ r, r ∈ l -> r.length <= 1000000) (hb : ∀ r, r ∈ l -> ∀ z, z ∈ r -> 0 <= z /\ z <= 255) :
  ∃b,Ev (fun k=>axz.f k q x y l) b/\Ev (fun k=>bjz.f k q x y l) b:=by
 obtain ⟨mb,hmb⟩:=ejz q x y;have hj: ∀(a b c:Int),Ev (fun k=>axz.j0 k l true a b c) false:=fun a b c=>Ev.step (f:=fun _=>some false) (fun k=>by rw [axz.j0,Ya rfl]) (Ev.now _)
 cases mb with
 |false=>
  refine ⟨false,Ev.congr (fun k=> ?_) (hj q x y),Ev.congr (fun k=> ?_) (Ev.now _)⟩
  ·unfold axz.f;rw [dwz,hmb,Zl,Yb (by decide)]
  ·unfold bjz.f;rw [hmb,Zl,Yb (by decide)]
 |true=>
  obtain ⟨p1,p2,k1,k2,m1,m2⟩:=cJz hmb;have hw:wrap64 (x+y)=x+y:=w64 (by omega) (by omega);by_cases hlen:(l.length:Int)=x+y
  ·obtain ⟨p,e,h1,h2,h3,h4,h5,h6⟩:=rpar11 q x y (l.take x.toNat) (by rw [List.length_take];omega) (fun r hm=>hr r (List.mem_of_mem_take hm)) (fun r hm=>hb r (List.mem_of_mem_take hm));have hs1:=rsame_dec p (l.drop x.toNat) (by omega) h6 (fun r hm=>hb r (List.mem_of_mem_drop hm));have hs2:=eqFunc_dec p (l.drop x.toNat) (by omega) (fun r hm=>by have:=h4 r hm;omega)
   have href: ∀b,(e=0->Ev (fun k=>aUz.f k p (l.drop x.toNat)) b)->(e≠0->b=false)->Ev (fun k=>axz.f k q x y l) b:=by
    intro b hb1 hb2;refine Ev.congr (fun k=>by unfold axz.f;rw [dwz,hmb,Zl,Ya rfl,hw,show ((l.length:Int) !=x+y)=false by rw [hlen];exact bne_self_eq_false _]) ?_;refine Ev.step (f:=fun k=>(aoz.f k q x y (l.take x.toNat)).bind fun t=>if t.2=0 then (aUz.f k t.1 (l.drop x.toNat)).bind fun u=>some u else some false) (fun k=>by rw [axz.j0,Yb (by decide),Ya (by omega),Ya (by omega)]) (Ev.bind h1 ?_);by_cases he:e=0
    ·exact Ev.congr (fun k=>by dsimp only;rw [Ya he]) (Ev.bind (hb1 he) (Ev.now b))
    ·rw [hb2 he];exact Ev.congr (fun k=>by dsimp only;rw [Yb he]) (Ev.now false)
   have hcod: ∀b,(e=0->Ev (fun k=>eqFunc k p (l.drop x.toNat)) b)->(e≠0->b=false)->Ev (fun k=>bjz.f k q x y l) b:=by
    intro b hb1 hb2;refine Ev.congr (fun k=>by unfold bjz.f;rw [hmb,Zl,Ya rfl,Ya hlen]) (Ev.bind h2 ?_);by_cases he:e=0
    ·exact Ev.congr (fun k=>by dsimp only;rw [Ya he]) (hb1 he)
    ·rw [hb2 he];exact Ev.congr (fun k=>by dsimp only;rw [Yb he]) (Ev.now false)
   by_cases he:e=0
   ·exact ⟨_,href _ (fun _=>hs1) (fun h=>Yf he h),hcod _ (fun _=>hs2) (fun h=>Yf he h)⟩
   ·exact ⟨false,href _ (fun h=>Yf h he) (fun _=>rfl),hcod _ (fun h=>Yf h he) (fun _=>rfl)⟩
  ·refine ⟨false,Ev.congr (fun k=> ?_) (hj q x y),Ev.congr (fun k=> ?_) (Ev.now _)⟩
   ·unfold axz.f;rw [dwz,hmb,Zl,Ya rfl,hw,show ((l.length:Int) !=x+y)=true from bne_iff_ne.2 hlen]
   ·unfold bjz.f;rw [hmb,Zl,Ya rfl,Yb hlen]
theorem fewb_loop (l:List (List Int)): ∀(m i:Nat),i+m=l.length->(∀r,r∈l.take i->r.length<=300)->i<=13-> ∃b,Ev (fun k=>aCz.l0 k l (i:Int)) b/\(b=true->(∀r,r∈l->r.length<=300)/\l.length<=12):=by
 intro m
 induction m with
 |zero=>
  intro i hi h _;refine ⟨decide ((l.length:Int)<=12),?_,fun hb=> ?_⟩
  ·have he : Ev (fun k => aCz.j1 k l (i : Int) false) (decide ((l.length : Int) <= 12)) := by
    refine Ev.step (f:=fun _=>some (decide ((l.length:Int)<=12))) (fun k=> ?_) (Ev.now _);rw [aCz.j1,Yb (by decide)]
   refine Ev.step (fun k=> ?_) he;rw [aCz.l0,Yb (by omega)]
  ·rw [List.take_of_length_le (by omega)] at h;have:=Zc hb;exact ⟨h,by omega⟩
 |succ m ih=>
  intro i hi h h13;by_cases hlt:i<13
  ·obtain ⟨r,hr⟩: ∃r,l[i]?=some r:=⟨_,Zf (by omega)⟩;have hrd:rd_L1 l (i:Int)=r:=by unfold rd_L1;rw [Zu,Zm,hr];rfl
   by_cases hlen:r.length<=300
   ·obtain ⟨b, hE, hb⟩ := ih (i + 1) (by omega) (fun q hq => by
     rw [List.take_add_one,hr] at hq;rcases List.mem_append.1 hq with hq|hq
     ·exact h q hq
     ·obtain rfl:q=r:=by simpa using hq
      exact hlen) (by omega)
    refine ⟨b,?_,hb⟩
    have he:Ev (fun k=>aCz.j1 k l (i:Int) true) b:=by
     refine Ev.step (fun k=> ?_) hE;rw [aCz.j1,Ya rfl,Ya (by omega),Ya (by omega),hrd,Yb (by omega),dEz (by omega)]
    refine Ev.step (fun k=> ?_) he;rw [aCz.l0,Ya (by omega),Zd (by omega)]
   ·refine ⟨false,?_,fun hb=>by cases hb⟩
    have he:Ev (fun k=>aCz.j1 k l (i:Int) true) false:=by
     refine Ev.step (f:=fun _=>some false) (fun k=> ?_) (Ev.now _);rw [aCz.j1,Ya rfl,Ya (by omega),Ya (by omega),hrd,Ya (by omega)]
    refine Ev.step (fun k=> ?_) he;rw [aCz.l0,Ya (by omega),Zd (by omega)]
  ·refine ⟨decide ((l.length:Int)<=12),?_,fun hb=>by have:=Zc hb;omega⟩
   have he:Ev (fun k=>aCz.j1 k l (i:Int) false) (decide ((l.length:Int)<=12)):=by
    refine Ev.step (f:=fun _=>some (decide ((l.length:Int)<=12))) (fun k=> ?_) (Ev.now _);rw [aCz.j1,Yb (by decide)]
   refine Ev.step (fun k=> ?_) he;rw [aCz.l0,Ya (by omega),Ze (by omega)]
theorem fewb_ev (l:List (List Int)): ∃b,Ev (fun n=>aCz.f n l) b/\(b=true->(∀r,r∈l->r.length<=300)/\l.length<=12):=by
 obtain ⟨b,h1,h2⟩:=fewb_loop l l.length 0 (by omega) (by simp) (by omega);exact ⟨b,Ev.congr (fun n=>rfl) h1,h2⟩
theorem u8_wf {x:Int} (h:(Lit.int .u8 x).wf=true):0<=x/\x<=255:=by
 simp [Lit.wf,IntKind.has] at h;have h1:IntKind.min .u8=0:=rfl;have h2:IntKind.max .u8=255:=rfl;omega
end Go.Proofs.Xc
end
section
namespace Go.Proofs.YtpdakdcmahlghaaGreat.RowKit
open Go Go.ChangeShapes Go.Proofs.Pw Go.Proofs.Xc
theorem nil_reads {α:Type} (d:Kd α) (w:World):d.C w none 0 [] :=⟨rfl,by simp,fun h=>Yf h (by simp)⟩
theorem open_rows {H : Type} {enc : TypeId × Value -> H} {P : Program} {w : World} {t e eb : TypeId} {k : IntKind} {fuel : Nat} {cs : List Value} {x : DataW H × List MemPlace} (ht : P.underlying t = some (.slice e)) (he : P.underlying e = some (.slice eb)) (hb : P.underlying eb = some (.int k)) (hce : P.cellsOf e = 1) (hcb : P.cellsOf eb = 1)
  (h:DataW.trod enc P w 0 (fun _=>true) true fuel t cs=some x):
  ∃(A:Option Addr) (cap:Nat) (rows:List (List Int)),cs= [.slice A rows.length cap] /\rows.length<=cap/\rows.length<=maxLen/\Kd.C (Kd.slice eb (Kd.int k)) w A rows.length rows/\ ∀r,r∈rows->r.length<=maxLen/\ ∀x∈r,(Lit.int k x).wf=true:=by
 rcases DataW.trod_slice ht h with ⟨rfl, -⟩|⟨a,len,cap,elems,rest,n,rfl,rfl,rfl, -,hl,hm,hlen,hel, -, -⟩
 ·exact ⟨none,0, [],rfl,Zv _,Nat.zero_le _,nil_reads _ _,fun r hr=>by simp at hr⟩
 have each: ∀i,i<len-> ∃r:List Int,(∃A c,w.cell? (a.add i)=some (.slice A r.length c)/\r.length<=c/\Kd.C (Kd.int k) w A r.length r)/\r.length<=maxLen/\ ∀x∈r,(Lit.int k x).wf=true:=by
  intro i hi;have h1:=hel i hi;rw [hce,Nat.mul_one,Zf (by omega),Option.bind_eq_some_iff] at h1;obtain ⟨cs',hcs,hy⟩:=h1;rcases open_ints he hb hcb hy with ⟨rfl, -⟩|⟨a',l',c',zs,rfl, -,hl',hm',hz, -,hcell,hwz⟩
  ·exact ⟨[],⟨none,0,cell_of_cells?_one hcs,Zv _,nil_reads _ _⟩,Nat.zero_le _,fun x hx=>by simp at hx⟩
  ·obtain ⟨r,rfl,h1,h2,h3,h4⟩:=ReadsInt.ofRowC (k:=k) (w:=w) (a:=some a') (len:=l') (cap:=c') (zs:=zs) (.inr ⟨a',rfl,hl',hm',by simpa using hz,hcell,hwz⟩);exact ⟨r,⟨some a',c',cell_of_cells?_one hcs,h4,Kd.C_of_reads (d:=(0:Int)) (h1:=fun _=>rfl) h1⟩,h2,h3⟩
 have all: ∀m,m<=len-> ∃rows:List (List Int),rows.length=m/\ ∀(i:Nat) (r:List Int),rows[i]?=some r->(∃A c,w.cell? (a.add i)=some (.slice A r.length c)/\r.length<=c/\Kd.C (Kd.int k) w A r.length r)/\r.length<=maxLen/\ ∀x∈r,(Lit.int k x).wf=true:=by
  intro m
  induction m with
  |zero=>exact fun _=>⟨[],rfl,fun i r hr=>by simp at hr⟩
  |succ m ih=>
   intro hm;obtain ⟨rows,e1,e2⟩:=ih (by omega);obtain ⟨r,hr⟩:=each m (by omega);refine ⟨rows++ [r],by simp [e1],fun i q hq=> ?_⟩;by_cases hi:i<rows.length
   ·rw [List.getElem?_append_left hi] at hq;exact e2 i q hq
   ·have hlt:=(Zk hq).1;obtain rfl:i=m:=by simp at hlt;omega
    rw [List.getElem?_append_right (by omega),e1,Nat.sub_self] at hq;obtain rfl:r=q:=by simpa using hq
    exact hr
 obtain ⟨rows,rfl,hrows⟩:=all len (Zv _);refine ⟨some a,cap,rows,rfl,hl,Zt hl hm,⟨rfl,Zt (Zt hl hm) (by decide),fun _=>⟨a,rfl,fun j p hj=> ?_⟩⟩,fun r hr=> ?_⟩
 ·obtain ⟨⟨A,c,h1,h2,h3⟩, -, -⟩:=hrows j p hj;refine ⟨[.slice A p.length c],rfl,⟨A,c,rfl,h2,h3⟩,fun i u hu=> ?_⟩
  cases i with
  |zero=>
   obtain rfl:Value.slice A p.length c=u:=by simpa using hu
   show w.cell? (a.add (j*1+0))=_;rw [Nat.mul_one];exact h1
  |succ i=>simp at hu
 ·obtain ⟨j,hj⟩:=List.getElem?_of_mem hr;exact (hrows j r hj).2
end Go.Proofs.YtpdakdcmahlghaaGreat.RowKit
end
