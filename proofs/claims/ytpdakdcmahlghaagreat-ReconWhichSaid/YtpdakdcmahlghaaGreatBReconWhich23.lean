-- Joined texts of this work (wip/tools/bundle.py).
import Derived.Test.YtpdakdcmahlghaaGreatBReconWhich22
set_option maxRecDepth 100000
set_option linter.unusedVariables false
set_option linter.unusedSimpArgs false
section
namespace Go.Proofs.Xc
open Go.RowKit Go.Proofs.Pw Go.Proofs.Pl Go.Proofs.Pm Tryz
attribute [local go_sem] a7z a8z bgz bhz aVz aWz a9z baz
def fN (wb:Int):Nat:=if wb=8 then 256 else 65536
theorem fN_fsize {wb:Int} (hw:wb=8\/wb=16):fsize wb=(fN wb:Int):=by rcases hw with rfl|rfl<;>rfl
theorem gmul_cast {wb a b:Int} (ha:0<=a/\a<fsize wb) (hb:0<=b/\b<fsize wb):gmul wb a b=(gmN wb a.toNat b.toNat:Int):=by
 unfold gmul inF;rw [Ya (by simp [ha.1,ha.2,hb.1,hb.2])]
theorem erz {wb a b:Int} (ha:0<=a/\a<fsize wb) (hb:0<=b/\b<fsize wb):(gmul wb a b).toNat=gmN wb a.toNat b.toNat:=by
 rw [gmul_cast ha hb,Zu]
section
variable {wb : Int} (hw : wb = 8 \/ wb = 16)
include hw
theorem c0z: ∃(m q:Nat) (l:List Nat),GfInv m q l/\fN wb=2^(m+1)/\ ∀a b,gmN wb a b=gm m q a b:=by
 rcases hw with rfl|rfl
 ·exact ⟨7,285,_,gf8,rfl,fun a b=>rfl⟩
 ·exact ⟨15,69643,_,gf16,rfl,fun a b=>rfl⟩
theorem gmN_ltN {a:Nat} (b:Nat) (ha:a<fN wb):gmN wb a b<fN wb:=by
 obtain ⟨m,q,l,F,e,h⟩:=c0z hw;rw [h,e];exact F.lt (by rw [<-e];exact ha)
theorem gmN_xl {a c:Nat} (b:Nat) (ha:a<fN wb) (hc:c<fN wb):gmN wb (a^^^c) b=gmN wb a b^^^gmN wb c b:=by
 obtain ⟨m,q,l,F,e,h⟩:=c0z hw;rw [e] at ha hc;rw [h,h,h];exact F.dlz ha hc
theorem gmN_xr (a b c:Nat):gmN wb a (b^^^c)=gmN wb a b^^^gmN wb a c:=by
 obtain ⟨m,q,l,F,e,h⟩:=c0z hw;rw [h,h,h];exact Gf.c7z a b c
theorem gmN_comm {a b:Nat} (ha:a<fN wb) (hb:b<fN wb):gmN wb a b=gmN wb b a:=by
 obtain ⟨m,q,l,F,e,h⟩:=c0z hw;rw [e] at ha hb;rw [h,h];exact F.comm ha hb
theorem gmN_asc {a b:Nat} (ha:a<fN wb) (hb:b<fN wb) (c:Nat):gmN wb (gmN wb a b) c=gmN wb a (gmN wb b c):=by
 obtain ⟨m,q,l,F,e,h⟩:=c0z hw;rw [e] at ha hb;rw [h,h,h,h];exact F.assoc ha hb c
theorem gmN_id {a:Nat} (ha:a<fN wb):gmN wb a 1=a:=by
 obtain ⟨m,q,l,F,e,h⟩:=c0z hw;rw [e] at ha;rw [h];exact F.eIz ha
theorem one_ltN:1<fN wb:=by rcases hw with rfl|rfl<;>decide
theorem gmN_idl {a:Nat} (ha:a<fN wb):gmN wb 1 a=a:=by rw [gmN_comm hw (one_ltN hw) ha,gmN_id hw ha]
theorem gmN_zl (a:Nat):gmN wb 0 a=0:=by
 obtain ⟨m,q,l,F,e,h⟩:=c0z hw;rw [h];exact Gf.dmz a
theorem c1z (a:Nat):gmN wb a 0=0:=by
 obtain ⟨m,q,l,F,e,h⟩:=c0z hw;rw [h];exact Gf.caz a
theorem xor_ltN {a b:Nat} (ha:a<fN wb) (hb:b<fN wb):a^^^b<fN wb:=by
 obtain ⟨m,q,l,F,e,h⟩:=c0z hw;rw [e] at ha hb|-;exact Nat.xor_lt_two_pow ha hb
theorem b3z {a:Int} (ha:0<=a/\a<fsize wb):a.toNat<fN wb:=by
 have:=fN_fsize hw;omega
theorem bx_toNat {a b:Int} (ha:0<=a/\a<fsize wb) (hb:0<=b/\b<fsize wb):(Go.bits .xor .i64 a b).toNat=a.toNat^^^b.toNat:=by
 obtain ⟨x,rfl⟩: ∃x:Nat,a=x:=⟨a.toNat,by omega⟩;obtain ⟨y,rfl⟩: ∃y:Nat,b=y:=⟨b.toNat,by omega⟩;rcases dHz hw with ⟨e, -⟩|⟨e, -⟩<;>rw [e] at ha hb
 ·rw [d3z x y (by omega) (by omega)];simp
 ·rw [d3z x y (by omega) (by omega)];simp
theorem gmN_inv {a:Nat} (ha:a<fN wb) (h0:a≠0):gmN wb a (ginv wb (a:Int)).toNat=1:=by
 have e:(ginv wb (a:Int)).toNat=gpwN wb a (fsize wb - 2).toNat:=by
  have hin:inF wb (a:Int)=true:=by
   unfold inF;rw [Zd (by omega),Zd (by rw [fN_fsize hw];omega)];rfl
  have hb:((a:Int) !=0)=true:=by simpa using h0
  have hf:decide ((0:Int)<=fsize wb - 2)=true:=by rcases hw with rfl|rfl<;>rfl
  unfold ginv;rw [hin,hb,Ya (by decide)];unfold gpow;rw [hin,hf,Ya (by decide),Zu,Zu]
 rw [e];rcases hw with rfl|rfl
 ·exact gf8.inv_left (m:=7) (by exact ha) h0
 ·exact gf16.inv_left (m:=15) (by exact ha) h0
end
theorem xor4 (a b c d:Nat):(a^^^b)^^^(c^^^d)=(a^^^c)^^^(b^^^d):=by
 rw [Nat.xor_assoc,Nat.xor_assoc, <-Nat.xor_assoc b, <-Nat.xor_assoc c,Nat.xor_comm b]
def evN (wb:Int):List Int->List Nat->Nat
 |x::r,y::v=>gmN wb x.toNat y^^^evN wb r v
 |_,_=>0
theorem evN_nil (wb:Int) (r:List Int):evN wb r [] =0:=by cases r<;>rfl
theorem evN_app {wb:Int} : ∀(r:List Int) (u b:List Nat),u.length<=r.length->evN wb r (u++b)=evN wb r u^^^evN wb (r.drop u.length) b
 |r, [],b,_=>by simp [evN_nil]
 | [],_::_,_,h=>by simp at h
 |x::r,y::u,b,h=>by
  have ih:=evN_app (wb:=wb) r u b (by simpa using h);show gmN wb x.toNat y^^^evN wb r (u++b)=(gmN wb x.toNat y^^^evN wb r u)^^^evN wb (r.drop u.length) b;rw [ih,Nat.xor_assoc]
section
variable {wb : Int} (hw : wb = 8 \/ wb = 16)
include hw
theorem evN_clr {n : Int} (hn : 0 <= n /\ n < fsize wb) : ∀ (r p : List Int) (v : List Nat), r.length = p.length -> (∀ x, x ∈ r -> 0 <= x /\ x < fsize wb) -> (∀ x, x ∈ p -> 0 <= x /\ x < fsize wb) ->
  evN wb (List.zipWith (clrF wb n) r p) v=evN wb r v^^^gmN wb n.toNat (evN wb p v)
 | [], [],v,_,_,_=>by simp [evN,c1z hw]
 | [],_::_,_,h,_,_=>by simp at h
 |_::_, [],_,h,_,_=>by simp at h
 |x::r,y::p, [],_,_,_=>by simp [evN,c1z hw]
 |x::r,y::p,z::v,h,hr,hp=>by
  have ih:=evN_clr hn r p v (by simpa using h) (fun x hx=>hr x (List.mem_cons_of_mem _ hx)) (fun x hx=>hp x (List.mem_cons_of_mem _ hx));have hx:=hr x (List.mem_cons_self ..);have hy:=hp y (List.mem_cons_self ..);show gmN wb (clrF wb n x y).toNat z^^^evN wb (List.zipWith (clrF wb n) r p) v=(gmN wb x.toNat z^^^evN wb r v)^^^gmN wb n.toNat (gmN wb y.toNat z^^^evN wb p v)
  have e:(clrF wb n x y).toNat=x.toNat^^^gmN wb n.toNat y.toNat:=by
   unfold clrF;rw [bx_toNat hw hx (bIz hw _ _),erz hn hy]
  rw [ih,e,gmN_xl hw z (b3z hw hx) (gmN_ltN hw _ (b3z hw hn)),gmN_asc hw (b3z hw hn) (b3z hw hy),gmN_xr hw,xor4]
theorem evN_scl {c : Int} (hc : 0 <= c /\ c < fsize wb) : ∀ (p : List Int) (v : List Nat), (∀ x, x ∈ p -> 0 <= x /\ x < fsize wb) ->
  evN wb (List.zipWith (fun x _=>gmul wb x c) p p) v=gmN wb c.toNat (evN wb p v)
 | [],v,_=>by simp [evN,c1z hw]
 |x::p, [],_=>by simp [evN,c1z hw]
 |x::p,z::v,hp=>by
  have ih:=evN_scl hc p v (fun x hx=>hp x (List.mem_cons_of_mem _ hx));have hx:=hp x (List.mem_cons_self ..);show gmN wb (gmul wb x c).toNat z^^^evN wb (List.zipWith (fun x _=>gmul wb x c) p p) v=gmN wb c.toNat (gmN wb x.toNat z^^^evN wb p v);rw [ih,erz hx hc,gmN_xr hw,gmN_comm hw (b3z hw hx) (b3z hw hc),gmN_asc hw (b3z hw hc) (b3z hw hx)]
theorem evN_off: ∀(r:List Int) (v:List Nat),(∀j,j<v.length->r.getD j 0=0\/v.getD j 0=0)->evN wb r v=0
 | [],v,_=>rfl
 |x::r, [],_=>rfl
 |x::r,y::v,h=>by
  have ih:=evN_off r v (fun j hj=>by simpa using h (j+1) (by simpa using hj));have h0:=h 0 (by simp);show gmN wb x.toNat y^^^evN wb r v=0;rw [ih];rcases h0 with h0|h0
  ·have:x=0:=by simpa using h0
   rw [this];simp [gmN_zl hw]
  ·have:y=0:=by simpa using h0
   rw [this];simp [c1z hw]
theorem evN_at: ∀(r:List Int) (v:List Nat) (i:Nat),i<v.length->v.getD i 0<fN wb->r.getD i 0=1->(∀j,j<v.length->j≠i->r.getD j 0=0\/v.getD j 0=0)->evN wb r v=v.getD i 0
 | [],v,i,_,_,h1,_=>by simp at h1
 |x::r, [],i,h,_,_,_=>by simp at h
 |x::r,y::v,0,_,hv,h1,h=>by
  have ih:=evN_off hw r v (fun j hj=>by simpa using h (j+1) (by simpa using hj) (by omega));have e1:x=1:=by simpa using h1
  have hv':y<fN wb:=by simpa using hv
  show gmN wb x.toNat y^^^evN wb r v=y;rw [ih,e1];show gmN wb 1 y^^^0=y;rw [gmN_idl hw hv',Nat.xor_zero]
 |x::r,y::v,i+1,hi,hv,h1,h=>by
  have ih:=evN_at r v i (by simpa using hi) (by simpa using hv) (by simpa using h1) (fun j hj hne=>by simpa using h (j+1) (by simpa using hj) (by omega));have h0:=h 0 (by simp) (by omega);show gmN wb x.toNat y^^^evN wb r v=v.getD i 0;rw [ih];rcases h0 with h0|h0
  ·have:x=0:=by simpa using h0
   rw [this];show gmN wb 0 y^^^_=_;rw [gmN_zl hw,Nat.zero_xor]
  ·have:y=0:=by simpa using h0
   rw [this,c1z hw,Nat.zero_xor]
theorem evN_two: ∀(r:List Int) (v:List Nat) (i c:Nat),i<c->c<v.length->r.getD i 0=1->v.getD c 0=1->(v.getD i 0=(r.getD c 0).toNat)->(0<=r.getD c 0/\r.getD c 0<fsize wb)->(∀j,j<v.length->j≠i->j≠c->r.getD j 0=0\/v.getD j 0=0)->evN wb r v=0
 | [],v,i,c,_,_,h1,_,_,_,_=>by simp at h1
 |x::r, [],i,c,_,h,_,_,_,_,_=>by simp at h
 |x::r,y::v,0,c+1,_,hc,h1,h2,h3,h4,h=>by
  have e1:x=1:=by simpa using h1
  have e2:v.getD c 0=1:=by simpa using h2
  have e3:y=(r.getD c 0).toNat:=by simpa using h3
  have e4:0<=r.getD c 0/\r.getD c 0<fsize wb:=by simpa using h4
  have hlt:=b3z hw e4;show gmN wb x.toNat y^^^evN wb r v=0
  have key: ∀(r:List Int) (v:List Nat) (c:Nat),c<v.length->v.getD c 0=1->(0<=r.getD c 0/\r.getD c 0<fsize wb)->(∀j,j<v.length->j≠c->r.getD j 0=0\/v.getD j 0=0)->evN wb r v=(r.getD c 0).toNat:=by
   intro r
   induction r with
   |nil=>intro v c _ _ _ _;simp [evN]
   |cons x r ih=>
    intro v c hc h1 h2 h
    cases v with
    |nil=>simp at hc
    |cons y v=>
     cases c with
     |zero=>
      have:=evN_off hw r v (fun j hj=>by simpa using h (j+1) (by simpa using hj) (by omega));have hy:y=1:=by simpa using h1
      have hx:0<=x/\x<fsize wb:=by simpa using h2
      show gmN wb x.toNat y^^^evN wb r v=_;rw [this,hy,gmN_id hw (b3z hw hx),Nat.xor_zero];simp
     |succ c=>
      have ih:=ih v c (by simpa using hc) (by simpa using h1) (by simpa using h2) (fun j hj hne=>by simpa using h (j+1) (by simpa using hj) (by omega));have h0:=h 0 (by simp) (by omega);show gmN wb x.toNat y^^^evN wb r v=_;rw [ih];rcases h0 with h0|h0
      ·have:x=0:=by simpa using h0
       rw [this];show gmN wb 0 y^^^_=_;rw [gmN_zl hw,Nat.zero_xor];simp
      ·have:y=0:=by simpa using h0
       rw [this,c1z hw,Nat.zero_xor];simp
  rw [key r v c (by simpa using hc) e2 e4 (fun j hj hne=>by simpa using h (j+1) (by simpa using hj) (by omega) (by omega)),e1,e3];show gmN wb 1 _^^^_=0;rw [gmN_idl hw hlt,Nat.xor_self]
 |x::r,y::v,i+1,c+1,hic,hc,h1,h2,h3,h4,h=>by
  have ih:=evN_two r v i c (by omega) (by simpa using hc) (by simpa using h1) (by simpa using h2) (by simpa using h3) (by simpa using h4) (fun j hj hne hnc=>by simpa using h (j+1) (by simpa using hj) (by omega) (by omega));have h0:=h 0 (by simp) (by omega) (by omega);show gmN wb x.toNat y^^^evN wb r v=0;rw [ih];rcases h0 with h0|h0
  ·have:x=0:=by simpa using h0
   rw [this];show gmN wb 0 y^^^_=_;rw [gmN_zl hw,Nat.zero_xor]
  ·have:y=0:=by simpa using h0
   rw [this,c1z hw,Nat.zero_xor]
 |x::r,y::v,i,0,hic,_,_,_,_,_,_=>by omega
end
theorem idxF_at' {α:Type} (p:α->Bool): ∀(l:List α), ¬idxF p l<0-> ∃x,l[(idxF p l).toNat]?=some x/\p x=true
 | [],h=>by simp [idxF] at h
 |y::l,h=>by
  have h1:=dXz p l;unfold idxF at h|-;by_cases hp:p y=true
  ·rw [Ya hp];exact ⟨y,by simp,hp⟩
  ·rw [Yb hp] at h|-;by_cases hn:idxF p l<0
   ·rw [Ya hn] at h;omega
   ·rw [Yb hn];obtain ⟨x,hx,hpx⟩:=idxF_at' p l hn;refine ⟨x,?_,hpx⟩;rw [show (idxF p l+1).toNat=(idxF p l).toNat+1 by omega,List.getElem?_cons_succ];exact hx
theorem evN_lt {wb:Int} (hw:wb=8\/wb=16): ∀(r:List Int) (v:List Nat),(∀x,x∈r->0<=x/\x<fsize wb)->evN wb r v<fN wb
 | [],_,_=>by have:=one_ltN hw;simp only [evN];omega
 |_::_, [],_=>by have:=one_ltN hw;simp only [evN];omega
 |x::r,y::v,h=>xor_ltN hw (gmN_ltN hw _ (b3z hw (h x (List.mem_cons_self ..)))) (evN_lt hw r v (fun z hz=>h z (List.mem_cons_of_mem _ hz)))
theorem evN_left (wb:Int): ∀(r s:List Int) (v:List Nat),v.length<=r.length->evN wb (r++s) v=evN wb r v
 | [],s,v,h=>by
  have:v= [] :=List.length_eq_zero_iff.1 (by simpa using h);subst this;rw [evN_nil,evN_nil]
 |x::r,s, [],_=>by rw [evN_nil,evN_nil]
 |x::r,s,y::v,h=>by
  show gmN wb x.toNat y^^^evN wb (r++s) v=gmN wb x.toNat y^^^evN wb r v;rw [evN_left wb r s v (by simpa using h)]
structure RI (wb:Int) (n:Nat) (u b:List Nat) (c:Nat) (W:List (List Int)):Prop where
 len:W.length=n
 good: ∀r,r∈W->Good wb (n+n) r
 zero: ∀r,r∈W->evN wb r (u++b)=0
 unit: ∀i r,W[i]?=some r-> ∀j,j<c->r.getD j 0=if i=j then 1 else 0
 inj: ∀v:List Nat,v.length=n->(∀x,x∈v->x<fN wb)->(∀r,r∈W->evN wb r v=0)-> ∀x,x∈v->x=0
theorem c2z {wb:Int} {L:Nat} {r:List Int} (h:Good wb L r) (j:Nat):0<=r.getD j 0/\r.getD j 0<fsize wb:=by
 rw [Zm]
 cases e:r[j]? with
 |none=>exact ⟨Int.le_refl _,by show (0:Int)<_;unfold fsize;split<;>omega⟩
 |some x=>exact h.2 x (Zo e)
theorem getD_zip (f:Int->Int->Int) (hf:f 0 0=0): ∀(r p:List Int) (j:Nat),r.length=p.length->(List.zipWith f r p).getD j 0=f (r.getD j 0) (p.getD j 0)
 | [], [],j,_=>by simp [hf]
 | [],_::_,_,h=>by simp at h
 |_::_, [],_,h=>by simp at h
 |x::r,y::p,0,_=>by simp
 |x::r,y::p,j+1,h=>by simpa using getD_zip f hf r p j (by simpa using h)
theorem eGz {a b:Int} (ha:0<=a) (hb:0<=b) (h:a.toNat=b.toNat):a=b:=by omega
section
variable {wb : Int} (hw : wb = 8 \/ wb = 16)
include hw
theorem RI.pivot {n c:Nat} {u b:List Nat} {W:List (List Int)} (h:RI wb n u b c W) (hc:c<n): ¬idxF (nzB c) (W.drop c)<0:=by
 intro hneg;have hany:=(dXz (nzB c) (W.drop c)).2.2.1 hneg
 have hz: ∀i r,W[i]?=some r->c<=i->r.getD c 0=0:=by
  intro i r hr hi;have h1:=List.any_eq_false.1 hany r (List.mem_iff_getElem?.2 ⟨i - c,by rw [List.getElem?_drop,show c+(i - c)=i by omega];exact hr⟩)
  simpa [nzB] using h1
 obtain ⟨v,hv⟩: ∃v:List Nat,v=(List.range n).map (fun j=>if j<c then ((W.getD j []).getD c 0).toNat else if j=c then 1 else 0):=⟨_,rfl⟩;have b0:v.length=n:=by rw [hv];simp
 have a0: ∀j,j<n->v.getD j 0=if j<c then ((W.getD j []).getD c 0).toNat else if j=c then 1 else 0:=by
  intro j hj;rw [hv,Zm];simp [hj]
 have hin: ∀x,x∈v->x<fN wb:=by
  intro x hx;rw [hv] at hx;obtain ⟨j,hj,rfl⟩:=List.mem_map.1 hx;have hj:j<n:=by simpa using hj
  have p1:=one_ltN hw;split
  ·obtain ⟨r,hr⟩: ∃r,W[j]?=some r:=⟨_,Zf (by rw [h.len];exact hj)⟩;have c0:W.getD j [] =r:=by rw [Zm,hr];rfl
   rw [c0];exact b3z hw (c2z (h.good r (Zo hr)) c)
  ·split<;>omega
 have hall:=h.inj v b0 hin (by
  intro r hr;obtain ⟨i,hi⟩:=List.mem_iff_getElem?.1 hr;have hil:=(Zk hi).1;rw [h.len] at hil;by_cases hic:i<c
  ·refine evN_two hw r v i c hic (by omega) (by rw [h.unit i r hi i hic, Ya rfl]) (by rw [a0 c hc, Yb (Nat.lt_irrefl _), Ya rfl]) (by
    have c0:W.getD i [] =r:=by rw [Zm,hi];rfl
    rw [a0 i hil,Ya hic,c0]) (c2z (h.good r hr) c) ?_
   intro j hj hji hjc;by_cases hjl:j<c
   ·exact .inl (by rw [h.unit i r hi j hjl,Yb (Ne.symm hji)])
   ·exact .inr (by rw [a0 j (by omega),Yb hjl,Yb hjc])
  ·refine evN_off hw r v ?_;intro j hj;by_cases hjl:j<c
   ·exact .inl (by rw [h.unit i r hi j hjl,Yb (by omega)])
   ·by_cases hjc:j=c
    ·exact .inl (by rw [hjc];exact hz i r hi (by omega))
    ·exact .inr (by rw [a0 j (by omega),Yb hjl,Yb hjc]))
 have h1:v.getD c 0=1:=by rw [a0 c hc,Yb (Nat.lt_irrefl _),Ya rfl]
 have h2:v.getD c 0=0:=by
  rw [Zm,Zf (by omega)];exact hall _ (List.getElem_mem _)
 omega
theorem RI.step {n c:Nat} {u b:List Nat} {W:List (List Int)} (h:RI wb n u b c W) (hc:c<n):RI wb n u b (c+1) (redStep wb c W c).1/\(redStep wb c W c).2=c+1:=by
 have hp:=h.pivot hw hc;have hg:=fAz hw (n+n) c W c h.good;revert hg;unfold redStep;have hat:=idxF_at' (nzB c) (W.drop c) hp;have hz:=dXz (nzB c) (W.drop c)
 generalize idxF (nzB c) (W.drop c)=z at *
 dsimp only;rw [Yb hp];obtain ⟨pr,hpr,hnz⟩:=hat;rw [List.getElem?_drop] at hpr;obtain ⟨k,hk⟩: ∃k,c+z.toNat=k:=⟨_,rfl⟩;rw [hk] at hpr|-;have hkc:c<=k:=by omega
 obtain ⟨q,hq⟩: ∃q,W[c]?=some q:=⟨_,Zf (by rw [h.len];exact hc)⟩;have hsw:=dtz W c k q pr hq hpr;have hsl:=dsz W c k;have hsm:=swapL_mem W c k
 generalize swapL W c k=R at *
 have v0:R[c]?=some pr:=by
  rw [hsw];by_cases hck:c=k
  ·rw [Ya hck];subst hck;rw [<-hq,hpr]
  ·rw [Yb hck,Ya rfl]
 have k0:R.getD c [] =pr:=by rw [Zm,v0];rfl
 rw [k0];have f0:=h.good pr (Zo hpr);have hpc:=c2z f0 c;have z0:pr.getD c 0≠0:=by simpa [nzB] using hnz
 obtain ⟨a,ha⟩: ∃a:Nat,pr.getD c 0=(a:Int):=⟨(pr.getD c 0).toNat,by omega⟩;have o0:a<fN wb:=by have:=b3z hw hpc;rw [ha] at this;simpa using this
 have hir:=ffz hw (pr.getD c 0);have hinv:=gmN_inv hw o0 (by omega);rw [<-ha] at hinv;obtain ⟨i,hi⟩: ∃i,ginv wb (pr.getD c 0)=i:=⟨_,rfl⟩;rw [hi] at hir hinv|-;have u0:=b3z hw hir;obtain ⟨p2,j0⟩: ∃p2,List.zipWith (fun x _=>gmul wb x i) pr pr=p2:=⟨_,rfl⟩;have e2: ∀v,evN wb p2 v=gmN wb i.toNat (evN wb pr v):=fun v=>by rw [<-j0];exact evN_scl hw hir pr v f0.2
 have d2: ∀j,p2.getD j 0=gmul wb (pr.getD j 0) i:=fun j=>by rw [<-j0];exact getD_zip (fun x _=>gmul wb x i) (d7z _ _) pr pr j rfl
 have b0:Good wb (n+n) p2:=by rw [<-j0];exact zip_good _ f0 f0 (fun x y _ _=>bIz hw _ _)
 rw [j0];have hset: ∀i,i≠c->(R.set c p2)[i]?=R[i]?:=fun i hi=>by rw [List.getElem?_set_ne (Ne.symm hi)]
 have c0:(R.set c p2)[c]?=some p2:=by rw [List.getElem?_set_self (by rw [hsl,h.len];exact hc)]
 have new: ∀i r,(clrAll wb c c p2 (R.set c p2))[i]?=some r->(i=c/\r=p2)\/(i≠c/\ ∃r0,R[i]?=some r0/\r=List.zipWith (clrF wb (r0.getD c 0)) r0 p2):=by
  intro i r hr;by_cases hic:i=c
  ·subst hic;rw [duz _ _ _ _ _ _ p2 c0,Ya rfl] at hr;exact .inl ⟨rfl,by injection hr with e;exact e.symm⟩
  ·obtain ⟨r0,a0⟩: ∃r0,R[i]?=some r0:=⟨_,Zf (by have:=(Zk hr).1;rw [cqz,List.length_set] at this;exact this)⟩;rw [duz _ _ _ _ _ _ r0 (by rw [hset i hic];exact a0),Yb hic] at hr;exact .inr ⟨hic,r0,a0,by injection hr with e;exact e.symm⟩
 have old: ∀i r0,R[i]?=some r0->i≠c->List.zipWith (clrF wb (r0.getD c 0)) r0 p2∈clrAll wb c c p2 (R.set c p2):=by
  intro i r0 a0 hic;refine List.mem_iff_getElem?.2 ⟨i,?_⟩;rw [duz _ _ _ _ _ _ r0 (by rw [hset i hic];exact a0),Yb hic]
 have l0:p2∈clrAll wb c c p2 (R.set c p2):=by
  refine List.mem_iff_getElem?.2 ⟨c,?_⟩;rw [duz _ _ _ _ _ _ p2 c0,Ya rfl]
 have d0: ∀i r0,R[i]?=some r0->Good wb (n+n) r0:=fun i r0 a0=>h.good r0 (hsm r0 (Zo a0))
 have g0: ∀(i:Nat) (r0:List Int) (v:List Nat),R[i]?=some r0->evN wb (List.zipWith (clrF wb (r0.getD c 0)) r0 p2) v=evN wb r0 v^^^gmN wb (r0.getD c 0).toNat (evN wb p2 v):=by
  intro i r0 v a0;have e0:=d0 i r0 a0;exact evN_clr hw (c2z e0 c) r0 p2 v (e0.1.trans b0.1.symm) e0.2 b0.2
 have A0: ∀j,j<c->pr.getD j 0=0:=fun j hj=>by rw [h.unit k pr hpr j hj,Yb (by omega)]
 have q0: ∀j,j<c->p2.getD j 0=0:=fun j hj=>by rw [d2,A0 j hj,d7z]
 have p0:p2.getD c 0=1:=by
  refine eGz (c2z b0 c).1 (by omega) ?_;rw [d2,erz hpc hir,ha]
  simpa using hinv
 have i0: ∀i r0,R[i]?=some r0->i≠c-> ∀j,j<c->r0.getD j 0=if i=j then 1 else 0:=by
  intro i r0 a0 hic j hj;rw [hsw] at a0;by_cases hik:i=k
  ·rw [Ya hik] at a0;injection a0 with e
   subst e;rw [h.unit c q hq j hj,Yb (by omega),Yb (by omega)]
  ·rw [Yb hik,Yb hic] at a0;exact h.unit i r0 a0 j hj
 have n0: ∀r,r∈W->r=pr\/ ∃i,i≠c/\R[i]?=some r:=by
  intro r hr;obtain ⟨i,hi⟩:=List.mem_iff_getElem?.1 hr;by_cases hik:i=k
  ·subst hik;rw [hpr] at hi;injection hi with e;exact .inl e.symm
  ·by_cases hic:i=c
   ·rw [hic,hq] at hi;injection hi with e
    subst e;exact .inr ⟨k,fun e=>hik (hic.trans e.symm),by rw [hsw,Ya rfl]⟩
   ·exact .inr ⟨i,hic,by rw [hsw,Yb hik,Yb hic];exact hi⟩
 intro hg;refine ⟨⟨hg.2.trans h.len,hg.1,?_,?_,?_⟩,rfl⟩
 ·intro r hr;obtain ⟨i,hi⟩:=List.mem_iff_getElem?.1 hr;have z2:evN wb p2 (u++b)=0:=by rw [e2,h.zero pr (Zo hpr),c1z hw]
  rcases new i r hi with ⟨-,rfl⟩|⟨-,r0,a0,rfl⟩
  ·exact z2
  ·rw [g0 i r0 _ a0,z2,c1z hw,h.zero r0 (hsm r0 (Zo a0))];rfl
 ·intro i r hr j hj;rcases new i r hr with ⟨rfl,rfl⟩|⟨hic,r0,a0,rfl⟩
  ·by_cases hji:j=i
   ·subst hji;rw [p0,Ya rfl]
   ·rw [q0 j (by omega),Yb (fun e=>hji e.symm)]
  ·have e0:=d0 i r0 a0;have w0:=c2z e0 c;rw [getD_zip _ (by unfold clrF;rw [eMz];rfl) r0 p2 j (e0.1.trans b0.1.symm)];have hd:=c2z e0 j;have y0:=c2z b0 j
   have key:(clrF wb (r0.getD c 0) (r0.getD j 0) (p2.getD j 0)).toNat=(r0.getD j 0).toNat^^^gmN wb (r0.getD c 0).toNat (p2.getD j 0).toNat:=by
    unfold clrF;rw [bx_toNat hw hd (bIz hw _ _),erz w0 y0]
   have h0:0<=clrF wb (r0.getD c 0) (r0.getD j 0) (p2.getD j 0):=by unfold clrF;exact (eQz hw hd (bIz hw _ _)).1
   by_cases hjc:j=c
   ·subst hjc;rw [Yb hic];refine eGz h0 (by omega) ?_;rw [key,p0];show _^^^gmN wb _ 1=0;rw [gmN_id hw (b3z hw hd),Nat.xor_self]
   ·have hjl:j<c:=by omega
    refine eGz h0 (by split<;>omega) ?_;rw [key,q0 j hjl];show _^^^gmN wb _ 0=_;rw [c1z hw,Nat.xor_zero,i0 i r0 a0 hic j hjl]
 ·intro v hv hin t0;refine h.inj v hv hin ?_;have z2:evN wb p2 v=0:=t0 p2 l0;intro r hr;rcases n0 r hr with rfl|⟨i,hic,hi⟩
  ·have h1:gmN wb a (evN wb p2 v)=0:=by rw [z2,c1z hw]
   have e3:gmN wb a i.toNat=1:=hinv;rw [e2, <-gmN_asc hw o0 u0,e3] at h1;rwa [gmN_idl hw (evN_lt hw r v f0.2)] at h1
  ·have h1:=t0 _ (old i r hi hic);rw [g0 i r v hi,z2,c1z hw,Nat.xor_zero] at h1;exact h1
theorem RI.all {n:Nat} {u b:List Nat} : ∀(m c:Nat) (W:List (List Int)),RI wb n u b c W->c+m=n->RI wb n u b n (redF wb m c W c).1/\(redF wb m c W c).2=n
 |0,c,W,h,e=>by
  have:c=n:=by omega
  subst this;exact ⟨h,rfl⟩
 |m+1,c,W,h,e=>by
  have hs:=h.step hw (by omega);unfold redF;rw [Yb (by rw [h.len];omega),hs.2];exact RI.all m (c+1) _ hs.1 (by omega)
end
def InjN (wb:Int) (n:Nat) (A:List (List Int)):Prop:= ∀v:List Nat,v.length=n->(∀x,x∈v->x<fN wb)->(∀r,r∈A->evN wb r v=0)-> ∀x,x∈v->x=0
theorem identM_at (n i:Nat) (hi:i<n):(identM n)[i]?=some ((List.replicate n 0).set i 1):=by simp [identM,hi]
theorem eWz (n i j:Nat) (hj:j<n):((List.replicate n (0:Int)).set i 1).getD j 0=if i=j then 1 else 0:=by
 rw [Zm,List.getElem?_set];by_cases h:i=j
 ·subst h;simp [hj]
 ·simp [h,hj]
theorem inv_undo {wb:Int} (hw:wb=8\/wb=16) (A:List (List Int)) (n:Nat) (hn:A.length=n) (hA: ∀r,r∈A->Good wb n r) (hinj:InjN wb n A) (u b:List Nat) (hu:u.length=n) (b0: ∀x,x∈u->x<fN wb) (hb:b.length=n) (hbN: ∀x,x∈b->x<fN wb) (hub: ∀i r,A[i]?=some r->evN wb r u=b.getD i 0):
  (invF wb A).2=n/\ ∀i y,(invF wb A).1[i]?=some y->u.getD i 0=evN wb (y.drop n) b:=by
 have h0:RI wb n u b 0 (List.zipWith (· ++ ·) A (identM n)):=by
  refine ⟨by rw [List.length_zipWith,bwz,hn,Nat.min_self],eBz hA (djz wb hw n),?_,fun i r _ j hj=>by omega,?_⟩
  ·intro r hr;obtain ⟨i,hi⟩:=List.mem_iff_getElem?.1 hr;rw [List.getElem?_zipWith] at hi
   obtain ⟨x,hx⟩: ∃x,A[i]?=some x:=by
    cases e:A[i]? with
    |none=>rw [e] at hi;simp at hi
    |some x=>exact ⟨x,rfl⟩
   have hil:=(Zk hx).1;rw [hn] at hil;rw [hx,identM_at n i hil] at hi;have hr':x++(List.replicate n 0).set i 1=r:=by simpa using hi
   have hxl:=(hA x (Zo hx)).1;subst hr';rw [evN_app _ u b (by simp [hxl,hu]),evN_left wb x _ u (by omega),hub i x hx,hu,List.drop_append_of_le_length (by omega),List.drop_of_length_le (by omega),List.nil_append];rw [evN_at hw _ b i (by omega) (by rw [Zm,Zf (by omega)];exact hbN _ (List.getElem_mem _)) (by rw [eWz n i i hil,Ya rfl]) (fun j hj hne=> .inl (by rw [eWz n i j (by omega),Yb (Ne.symm hne)])),Nat.xor_self]
  ·intro v hv a0 hz;refine hinj v hv a0 ?_;intro r hr;obtain ⟨i,hi⟩:=List.mem_iff_getElem?.1 hr;have hil:=(Zk hi).1;rw [hn] at hil;have h1:=hz (r++(List.replicate n 0).set i 1) (List.mem_iff_getElem?.2 ⟨i,by rw [List.getElem?_zipWith,hi,identM_at n i hil]⟩);rwa [evN_left wb r _ v (by have:=(hA r hr).1;omega)] at h1
 have h1:=RI.all hw n 0 _ h0 (by omega);unfold invF;rw [hn];refine ⟨h1.2,fun i y hy=> ?_⟩;have hm:=Zo hy;have hz:=h1.1.zero y hm;have hil:=(Zk hy).1;rw [h1.1.len] at hil;have hyl:=(h1.1.good y hm).1;rw [evN_app y u b (by omega),hu] at hz;rw [evN_at hw y u i (by omega) (by rw [Zm,Zf (by omega)];exact b0 _ (List.getElem_mem _)) (by rw [h1.1.unit i y hy i hil,Ya rfl]) (fun j hj hne=> .inl (by rw [h1.1.unit i y hy j (by omega),Yb (Ne.symm hne)]))] at hz;have:=congrArg (· ^^^evN wb (y.drop n) b) hz
 simpa [Nat.xor_assoc] using this
end Go.Proofs.Xc
end
section
namespace Go.Proofs.Xc
open Go.RowKit Go.Proofs.Pw Go.Proofs.Pl Go.Proofs.Pm Tryz
attribute [local go_sem] a7z a8z bgz bhz aVz aWz a9z baz
theorem Ev.uniq {α:Type} {g:Nat->Option α} {a b:α} (h:Ev g a) (k:Ev g b):a=b:=by
 obtain ⟨n,hn⟩:=h;obtain ⟨m,hm⟩:=k;have h1:=hn (max n m) (Nat.le_max_left ..);have h2:=hm (max n m) (Nat.le_max_right ..);exact Zn (h1.symm.trans h2)
theorem six {q:Int} (h1:1<=q) (h2:q<=6):q=1\/q=2\/q=3\/q=4\/q=5\/q=6:=by omega
theorem c6z {wb:Int} (hw:wb=8\/wb=16) {a v:Nat} (ha:a<fN wb) (hv:v<fN wb) (h0:a≠0) (h:gmN wb a v=1):ginv wb (a:Int)=(v:Int):=by
 have hr:=ffz hw (a:Int);obtain ⟨i,hi⟩: ∃i:Nat,ginv wb (a:Int)=(i:Int):=⟨(ginv wb (a:Int)).toNat,by omega⟩;have h1:=gmN_inv hw ha h0;rw [hi,Zu] at h1;have hil:i<fN wb:=by have:=b3z hw hr;rw [hi] at this;simpa using this
 have h2:gmN wb v (gmN wb a i)=v:=by rw [h1,gmN_id hw hv]
 rw [<-gmN_asc hw hv ha,gmN_comm hw hv ha,h,gmN_idl hw hil] at h2;rw [hi,h2]
def awake16.b:List Int:= [97,98,99,100,101,102,103,104,105,106,107,108,109,110,111,112,113,114,115,116,117,118,119,120]
def awake16.l:List (List Int):= [[97,98,99,100,101,102,103,104], [105,106,107,108,109,110,111,112], [113,114,115,116,117,118,119,120], [121,122,123,124,125,126,127,96], [0,0,0,0,0,0,0,235]]
theorem awake16.enc:codec_Encode.f 199 1 3 2 awake16.b=some (awake16.l,0):=by kernel_rfl
theorem i16_1:ginv 16 1=1:=c6z (.inr rfl) (a:=1) (v:=1) (by decide) (by decide) (by decide) (by decide+kernel)
theorem i16_2:ginv 16 2=34821:=c6z (.inr rfl) (a:=2) (v:=34821) (by decide) (by decide) (by decide) (by decide+kernel)
theorem i16_3:ginv 16 3=61446:=c6z (.inr rfl) (a:=3) (v:=61446) (by decide) (by decide) (by decide) (by decide+kernel)
theorem i16_4:ginv 16 4=52231:=c6z (.inr rfl) (a:=4) (v:=52231) (by decide) (by decide) (by decide) (by decide+kernel)
theorem i16_5:ginv 16 5=20482:=c6z (.inr rfl) (a:=5) (v:=20482) (by decide) (by decide) (by decide) (by decide+kernel)
theorem i16_6:ginv 16 6=30723:=c6z (.inr rfl) (a:=6) (v:=30723) (by decide) (by decide) (by decide) (by decide+kernel)
theorem i16_7:ginv 16 7=27502:=c6z (.inr rfl) (a:=7) (v:=27502) (by decide) (by decide) (by decide) (by decide+kernel)
theorem i16_8:ginv 16 8=60934:=c6z (.inr rfl) (a:=8) (v:=60934) (by decide) (by decide) (by decide) (by decide+kernel)
theorem i16_9:ginv 16 9=9946:=c6z (.inr rfl) (a:=9) (v:=9946) (by decide) (by decide) (by decide) (by decide+kernel)
theorem i16_10:ginv 16 10=10241:=c6z (.inr rfl) (a:=10) (v:=10241) (by decide) (by decide) (by decide) (by decide+kernel)
theorem i16_11:ginv 16 11=60305:=c6z (.inr rfl) (a:=11) (v:=60305) (by decide) (by decide) (by decide) (by decide+kernel)
def gtab:Int->Int:=fun x=>if x=1 then 1 else if x=2 then 34821 else if x=3 then 61446 else if x=4 then 52231 else if x=5 then 20482 else if x=6 then 30723 else if x=7 then 27502 else if x=8 then 60934 else if x=9 then 9946 else if x=10 then 10241 else if x=11 then 60305 else 0
theorem gtab_inv (x:Int) (h0:1<=x) (h1:x<12):ginv 16 x=gtab x:=by
 have h:x=1\/x=2\/x=3\/x=4\/x=5\/x=6\/x=7\/x=8\/x=9\/x=10\/x=11:=by omega
 rcases h with rfl|rfl|rfl|rfl|rfl|rfl|rfl|rfl|rfl|rfl|rfl
 ·exact i16_1
 ·exact i16_2
 ·exact i16_3
 ·exact i16_4
 ·exact i16_5
 ·exact i16_6
 ·exact i16_7
 ·exact i16_8
 ·exact i16_9
 ·exact i16_10
 ·exact i16_11
theorem xor_small: ∀m:Nat,m<5-> ∀a:Nat,a<m-> ∀b:Nat,b<8->1<=Go.bits .xor .i64 ((0+a:Nat):Int) ((m+b:Nat):Int)/\Go.bits .xor .i64 ((0+a:Nat):Int) ((m+b:Nat):Int)<12:=by decide+kernel
def tabM (k m:Nat):List (List Int):=(runL 0 m).map fun a=>(runL m k).map fun b=>gtab (Go.bits .xor .i64 a b)
theorem par2_tab (k m:Nat) (hk:k<9) (hm:m<5):parM 2 k m=tabM k m:=by
 show cauM 16 (runL 0 m) (runL m k)=tabM k m;unfold cauM tabM runL;refine List.map_congr_left (fun a ha=>List.map_congr_left (fun b hb=> ?_));obtain ⟨i,hi,rfl⟩:=List.mem_map.1 ha;obtain ⟨j,hj,rfl⟩:=List.mem_map.1 hb;have:=xor_small m hm i (by simpa using hi) j (by have:=List.mem_range.1 hj;omega);exact gtab_inv _ this.1 this.2
def parL2:List (List (List (List Nat))):= [[[[1]],[[34821],[61446]],[[61446],[34821],[1]],[[52231],[20482],[30723],[27502]]],[[[1,34821]],[[34821,61446],[61446,34821]],[[61446,52231],[34821,20482],[1,30723]],[[52231,20482],[20482,52231],[30723,27502],[27502,30723]]],[[[1,34821,61446]],[[34821,61446,52231],[61446,34821,20482]],[[61446,52231,20482],[34821,20482,52231],[1,30723,27502]],[[52231,20482,30723],[20482,52231,27502],[30723,27502,52231],[27502,30723,20482]]],[[[1,34821,61446,52231]],[[34821,61446,52231,20482],[61446,34821,20482,52231]],[[61446,52231,20482,30723],[34821,20482,52231,27502],[1,30723,27502,52231]],[[52231,20482,30723,27502],[20482,52231,27502,30723],[30723,27502,52231,20482],[27502,30723,20482,52231]]],[[[1,34821,61446,52231,20482]],[[34821,61446,52231,20482,30723],[61446,34821,20482,52231,27502]],[[61446,52231,20482,30723,27502],[34821,20482,52231,27502,30723],[1,30723,27502,52231,20482]],[[52231,20482,30723,27502,60934],[20482,52231,27502,30723,9946],[30723,27502,52231,20482,10241],[27502,30723,20482,52231,60305]]],[[[1,34821,61446,52231,20482,30723]],[[34821,61446,52231,20482,30723,27502],[61446,34821,20482,52231,27502,30723]],[[61446,52231,20482,30723,27502,60934],[34821,20482,52231,27502,30723,9946],[1,30723,27502,52231,20482,10241]],[[52231,20482,30723,27502,60934,9946],[20482,52231,27502,30723,9946,60934],[30723,27502,52231,20482,10241,60305],[27502,30723,20482,52231,60305,10241]]],[[[1,34821,61446,52231,20482,30723,27502]],[[34821,61446,52231,20482,30723,27502,60934],[61446,34821,20482,52231,27502,30723,9946]],[[61446,52231,20482,30723,27502,60934,9946],[34821,20482,52231,27502,30723,9946,60934],[1,30723,27502,52231,20482,10241,60305]],[[52231,20482,30723,27502,60934,9946,10241],[20482,52231,27502,30723,9946,60934,60305],[30723,27502,52231,20482,10241,60305,60934],[27502,30723,20482,52231,60305,10241,9946]]],[[[1,34821,61446,52231,20482,30723,27502,60934]],[[34821,61446,52231,20482,30723,27502,60934,9946],[61446,34821,20482,52231,27502,30723,9946,60934]],[[61446,52231,20482,30723,27502,60934,9946,10241],[34821,20482,52231,27502,30723,9946,60934,60305],[1,30723,27502,52231,20482,10241,60305,60934]],[[52231,20482,30723,27502,60934,9946,10241,60305],[20482,52231,27502,30723,9946,60934,60305,10241],[30723,27502,52231,20482,10241,60305,60934,9946],[27502,30723,20482,52231,60305,10241,9946,60934]]]]
def rowsL2 (k m:Nat):List (List Nat):=(identM (k+1)).map nOf++(parL2.getD k []).getD m []
theorem parJ2: ∀k,k<8-> ∀m,m<4->chk 15 69643 13 (k+1) (rowsL2 k m)=true:=by decide+kernel
theorem parE2: ∀k,k<8-> ∀m,m<4->(identM (k+1)++tabM (k+1) (m+1)).map nOf=rowsL2 k m:=by decide+kernel
theorem chk_2 (K M:Nat) (h1:1<=K) (h2:K<=8) (h3:1<=M) (h4:M<=4):chk 15 69643 13 K ((genM 2 K M).map nOf)=true:=by
 obtain ⟨k,rfl⟩: ∃k,K=k+1:=⟨K - 1,by omega⟩;obtain ⟨m,rfl⟩: ∃m,M=m+1:=⟨M - 1,by omega⟩;rw [show genM 2 (k+1) (m+1)=identM (k+1)++tabM (k+1) (m+1) by unfold genM;rw [par2_tab (k+1) (m+1) (by omega) (by omega)]];rw [parE2 k (by omega) m (by omega)];exact parJ2 k (by omega) m (by omega)
def parL3:List (List (List (List Nat))):= [[[[1]],[[1],[1]],[[1],[1],[1]]],[[[1,1]],[[1,1],[1,2]],[[1,1],[1,2],[1,4]]],[[[1,1,1]],[[1,1,1],[1,2,4]],[[1,1,1],[1,2,4],[1,4,16]]],[[[1,1,1,1]],[[1,1,1,1],[1,2,4,8]],[[1,1,1,1],[1,2,4,8],[1,4,16,64]]],[[[1,1,1,1,1]],[[1,1,1,1,1],[1,2,4,8,16]],[[1,1,1,1,1],[1,2,4,8,16],[1,4,16,64,29]]],[[[1,1,1,1,1,1]],[[1,1,1,1,1,1],[1,2,4,8,16,32]],[[1,1,1,1,1,1],[1,2,4,8,16,32],[1,4,16,64,29,116]]],[[[1,1,1,1,1,1,1]],[[1,1,1,1,1,1,1],[1,2,4,8,16,32,64]],[[1,1,1,1,1,1,1],[1,2,4,8,16,32,64],[1,4,16,64,29,116,205]]],[[[1,1,1,1,1,1,1,1]],[[1,1,1,1,1,1,1,1],[1,2,4,8,16,32,64,128]],[[1,1,1,1,1,1,1,1],[1,2,4,8,16,32,64,128],[1,4,16,64,29,116,205,19]]]]
def rowsL3 (k m:Nat):List (List Nat):=(identM (k+1)).map nOf++(parL3.getD k []).getD m []
theorem parJ3: ∀k,k<8-> ∀m,m<3->chk 7 285 13 (k+1) (rowsL3 k m)=true:=by decide+kernel
theorem parE3: ∀k,k<8-> ∀m,m<3->(genM 3 (k+1) (m+1)).map nOf=rowsL3 k m:=by decide+kernel
theorem chk_3 (K M:Nat) (h1:1<=K) (h2:K<=8) (h3:1<=M) (h4:M<=3):chk 7 285 13 K ((genM 3 K M).map nOf)=true:=by
 obtain ⟨k,rfl⟩: ∃k,K=k+1:=⟨K - 1,by omega⟩;obtain ⟨m,rfl⟩: ∃m,M=m+1:=⟨M - 1,by omega⟩;rw [parE3 k (by omega) m (by omega)];exact parJ3 k (by omega) m (by omega)
def parL4:List (List (List (List Nat))):= [[[[1]],[[1],[142]],[[1],[142],[244]],[[1],[142],[244],[71]]],[[[142,244]],[[142,244],[244,142]],[[142,244],[244,142],[71,167]],[[142,244],[244,142],[71,167],[167,71]]],[[[244,142,1]],[[244,142,1],[71,167,122]],[[244,142,1],[71,167,122],[167,71,186]],[[244,142,1],[71,167,122],[167,71,186],[122,186,71]]],[[[71,167,122,186]],[[71,167,122,186],[167,71,186,122]],[[71,167,122,186],[167,71,186,122],[122,186,71,167]],[[71,167,122,186],[167,71,186,122],[122,186,71,167],[186,122,167,71]]],[[[167,71,186,122,1]],[[167,71,186,122,1],[122,186,71,167,142]],[[167,71,186,122,1],[122,186,71,167,142],[186,122,167,71,244]],[[167,71,186,122,1],[122,186,71,167,142],[186,122,167,71,244],[173,157,221,152,61]]],[[[122,186,71,167,142,244]],[[122,186,71,167,142,244],[186,122,167,71,244,142]],[[122,186,71,167,142,244],[186,122,167,71,244,142],[173,157,221,152,61,170]],[[122,186,71,167,142,244],[186,122,167,71,244,142],[173,157,221,152,61,170],[157,173,152,221,170,61]]],[[[186,122,167,71,244,142,1]],[[186,122,167,71,244,142,1],[173,157,221,152,61,170,93]],[[186,122,167,71,244,142,1],[173,157,221,152,61,170,93],[157,173,152,221,170,61,150]],[[186,122,167,71,244,142,1],[173,157,221,152,61,170,93],[157,173,152,221,170,61,150],[221,152,173,157,93,150,61]]],[[[173,157,221,152,61,170,93,150]],[[173,157,221,152,61,170,93,150],[157,173,152,221,170,61,150,93]],[[173,157,221,152,61,170,93,150],[157,173,152,221,170,61,150,93],[221,152,173,157,93,150,61,170]],[[173,157,221,152,61,170,93,150],[157,173,152,221,170,61,150,93],[221,152,173,157,93,150,61,170],[152,221,157,173,150,93,170,61]]]]
def rowsL4 (k m:Nat):List (List Nat):=(identM (k+1)).map nOf++(parL4.getD k []).getD m []
theorem parJ4: ∀k,k<8-> ∀m,m<4->chk 7 285 13 (k+1) (rowsL4 k m)=true:=by decide+kernel
theorem parE4: ∀k,k<8-> ∀m,m<4->(genM 4 (k+1) (m+1)).map nOf=rowsL4 k m:=by decide+kernel
theorem chk_4 (K M:Nat) (h1:1<=K) (h2:K<=8) (h3:1<=M) (h4:M<=4):chk 7 285 13 K ((genM 4 K M).map nOf)=true:=by
 obtain ⟨k,rfl⟩: ∃k,K=k+1:=⟨K - 1,by omega⟩;obtain ⟨m,rfl⟩: ∃m,M=m+1:=⟨M - 1,by omega⟩;rw [parE4 k (by omega) m (by omega)];exact parJ4 k (by omega) m (by omega)
def parL5:List (List (List (List Nat))):= [[[[1]],[[1],[1]],[[1],[1],[1]],[[1],[1],[1],[1]]],[[[3,2]],[[3,2],[2,3]],[[3,2],[2,3],[5,4]],[[3,2],[2,3],[5,4],[4,5]]],[[[1,1,1]],[[1,1,1],[15,8,6]],[[1,1,1],[15,8,6],[14,9,6]],[[1,1,1],[15,8,6],[14,9,6],[14,8,7]]],[[[27,28,18,20]],[[27,28,18,20],[28,27,20,18]],[[27,28,18,20],[28,27,20,18],[18,20,27,28]],[[27,28,18,20],[28,27,20,18],[18,20,27,28],[20,18,28,27]]],[[[7,7,6,6,1]],[[7,7,6,6,1],[9,8,9,8,1]],[[7,7,6,6,1],[9,8,9,8,1],[15,14,14,15,1]],[[7,7,6,6,1],[9,8,9,8,1],[15,14,14,15,1],[2,125,149,253,22]]],[[[7,6,5,4,3,2]],[[7,6,5,4,3,2],[6,7,4,5,2,3]],[[7,6,5,4,3,2],[6,7,4,5,2,3],[160,223,223,183,254,232]],[[7,6,5,4,3,2],[6,7,4,5,2,3],[160,223,223,183,254,232],[223,160,183,223,232,254]]],[[[1,1,1,1,1,1,1]],[[1,1,1,1,1,1,1],[61,163,157,20,192,55,225]],[[1,1,1,1,1,1,1],[61,163,157,20,192,55,225],[66,220,245,124,214,33,225]],[[1,1,1,1,1,1,1],[61,163,157,20,192,55,225],[66,220,245,124,214,33,225],[170,35,10,148,214,55,247]]],[[[26,132,186,51,231,16,198,39]],[[26,132,186,51,231,16,198,39],[132,26,51,186,16,231,39,198]],[[26,132,186,51,231,16,198,39],[132,26,51,186,16,231,39,198],[186,51,26,132,198,39,231,16]],[[26,132,186,51,231,16,198,39],[132,26,51,186,16,231,39,198],[186,51,26,132,198,39,231,16],[51,186,132,26,39,198,16,231]]]]
def rowsL5 (k m:Nat):List (List Nat):=(identM (k+1)).map nOf++(parL5.getD k []).getD m []
theorem parJ5: ∀k,k<8-> ∀m,m<4->chk 7 285 13 (k+1) (rowsL5 k m)=true:=by decide+kernel
theorem parE5: ∀k,k<8-> ∀m,m<4->(genM 5 (k+1) (m+1)).map nOf=rowsL5 k m:=by decide+kernel
theorem chk_5 (K M:Nat) (h1:1<=K) (h2:K<=8) (h3:1<=M) (h4:M<=4):chk 7 285 13 K ((genM 5 K M).map nOf)=true:=by
 obtain ⟨k,rfl⟩: ∃k,K=k+1:=⟨K - 1,by omega⟩;obtain ⟨m,rfl⟩: ∃m,M=m+1:=⟨M - 1,by omega⟩;rw [parE5 k (by omega) m (by omega)];exact parJ5 k (by omega) m (by omega)
def wd (wb:Int) (r:List Nat):List Nat:=if wb=8 then r else pairN r
def wAt (wb:Int) (t:Nat) (r:List Nat):Nat:=(wd wb r).getD t 0
theorem wd_len {wb:Int} (hw:wb=8\/wb=16) (r:List Nat):(wd wb r).length=r.length / wN wb:=by
 rcases hw with rfl|rfl
 ·simp [wd,wN]
 ·simp [wd,wN,ekz]
theorem wd_lt {wb:Int} (hw:wb=8\/wb=16) (r:List Nat) (h: ∀x,x∈r->x<256): ∀x,x∈wd wb r->x<fN wb:=by
 rcases hw with rfl|rfl
 ·exact h
 ·exact pairN_lt r h
theorem wd_xor {wb:Int} (hw:wb=8\/wb=16) (a b:List Nat) (hl:a.length=b.length) (ha: ∀x,x∈a->x<256) (hb: ∀x,x∈b->x<256):wd wb (xorN a b)=xorN (wd wb a) (wd wb b):=by
 rcases hw with rfl|rfl
 ·rfl
 ·exact pairN_xor a b hl ha hb
theorem wd_mul {wb:Int} (hw:wb=8\/wb=16) (c:Int) (r:List Nat):wd wb (mulN wb c r)=mapN (mN wb c) (wd wb r):=by
 rcases hw with rfl|rfl
 ·rfl
 ·show pairN (flatN (mapN (mN 16 c) (pairN r)))=mapN (mN 16 c) (pairN r)
  exact pair_flat _ (fun x hx=>by
   obtain ⟨y, -,rfl⟩:=List.mem_map.1 hx
   exact mN_lt16 c y)
theorem wd_inj {wb:Int} (hw:wb=8\/wb=16) (a b:List Nat) (ha: ∀x,x∈a->x<256) (hb: ∀x,x∈b->x<256) (ea:a.length % wN wb=0) (eb:b.length % wN wb=0) (h:wd wb a=wd wb b):a=b:=by
 rcases hw with rfl|rfl
 ·exact h
 ·rw [<-flat_pair a (by simpa [wN] using ea) ha, <-flat_pair b (by simpa [wN] using eb) hb];exact congrArg flatN h
theorem mN_gm {wb:Int} (hw:wb=8\/wb=16) {c:Int} (hc:0<=c/\c<fsize wb) (x:Nat) (hx:x<fN wb):mN wb c x=gmN wb c.toNat x:=by
 rcases hw with rfl|rfl
 ·exact mN_in8 hc.1 hc.2 x hx
 ·exact mN_in16 hc.1 hc.2 x hx
theorem getD_xorN: ∀(a b:List Nat) (t:Nat),a.length=b.length->(xorN a b).getD t 0=a.getD t 0^^^b.getD t 0
 | [], [],t,_=>by simp [xorN]
 |x::a,y::b,0,_=>rfl
 |x::a,y::b,t+1,h=>by
  have ih:=getD_xorN a b t (by simpa using h);show (xorN a b).getD t 0=_;rw [ih];rfl
 | [],_::_,_,h=>by simp at h
 |_::_, [],_,h=>by simp at h
theorem getD_lt {n:Nat} (hn:0<n) (l:List Nat) (h: ∀x,x∈l->x<n) (t:Nat):l.getD t 0<n:=by
 rw [Zm]
 cases e:l[t]? with
 |none=>exact hn
 |some x=>exact h x (Zo e)
theorem fN_pos {wb:Int} (hw:wb=8\/wb=16):0<fN wb:=by rcases hw with rfl|rfl<;>decide
theorem wAt_lt {wb:Int} (hw:wb=8\/wb=16) (t:Nat) (r:List Nat) (h: ∀x,x∈r->x<256):wAt wb t r<fN wb:=getD_lt (fN_pos hw) _ (wd_lt hw r h) t
theorem wAt_mul {wb:Int} (hw:wb=8\/wb=16) {c:Int} (hc:0<=c/\c<fsize wb) (t:Nat) (r:List Nat) (h: ∀x,x∈r->x<256):wAt wb t (mulN wb c r)=gmN wb c.toNat (wAt wb t r):=by
 unfold wAt;rw [wd_mul hw];unfold mapN;rw [Zm,List.getElem?_map,Zm]
 cases e:(wd wb r)[t]? with
 |none=>rw [Option.map_none,Option.getD_none,c1z hw]
 |some x=>
  rw [Option.map_some,Option.getD_some,Option.getD_some];exact mN_gm hw hc x (wd_lt hw r h x (Zo e))
theorem wAt_xor {wb:Int} (hw:wb=8\/wb=16) (t:Nat) (a b:List Nat) (hl:a.length=b.length) (ha: ∀x,x∈a->x<256) (hb: ∀x,x∈b->x<256):wAt wb t (xorN a b)=wAt wb t a^^^wAt wb t b:=by
 unfold wAt;rw [wd_xor hw a b hl ha hb,getD_xorN _ _ _ (by rw [wd_len hw,wd_len hw,hl])]
theorem dot_fold {wb : Int} (hw : wb = 8 \/ wb = 16) (S : Nat) (hS : S % wN wb = 0) (t : Nat) : ∀ (c : List Int) (P : List (List Nat)) (a : List Nat), (∀ x, x ∈ c -> 0 <= x /\ x < fsize wb) -> (∀ q, q ∈ P -> q.length = S /\ ∀ z, z ∈ q -> z < 256) -> (a.length = S /\ ∀ z, z ∈ a -> z < 256) ->
  wAt wb t ((List.zipWith (mulN wb) c P).foldl xorN a)=wAt wb t a^^^evN wb c (P.map (wAt wb t))
 | [],P,a,_,_,_=>by simp [evN]
 |_::_, [],a,_,_,_=>by simp [evN]
 |x::c,r::P,a,hc,hP,ha=>by
  have hr:=hP r (List.mem_cons_self ..);have a0:(mulN wb x r).length=S:=by rw [fjz hw _ _ hr.2 (by rw [hr.1];exact hS)];exact hr.1
  have ih:=dot_fold hw S hS t c P (xorN a (mulN wb x r)) (fun q hq=>hc q (List.mem_cons_of_mem _ hq)) (fun q hq=>hP q (List.mem_cons_of_mem _ hq)) ⟨xorN_len2 ha.1 a0,xorN_lt (w:=8) _ _ ha.2 (eaz _ _ _)⟩;show wAt wb t ((List.zipWith (mulN wb) c P).foldl xorN (xorN a (mulN wb x r)))=wAt wb t a^^^(gmN wb x.toNat (wAt wb t r)^^^evN wb c (P.map (wAt wb t)));rw [ih,wAt_xor hw t _ _ (by omega) ha.2 (eaz _ _ _),wAt_mul hw (hc x (List.mem_cons_self ..)) t r hr.2,Nat.xor_assoc]
theorem wAt_zero (wb:Int) (hw:wb=8\/wb=16) (S t:Nat):wAt wb t (List.replicate S 0)=0:=by
 have h: ∀x,x∈wd wb (List.replicate S 0)->x=0:=by
  rcases hw with rfl|rfl
  ·intro x hx;exact List.eq_of_mem_replicate hx
  ·have key : ∀ (n : Nat) (l : List Nat), l.length <= n -> (∀ x, x ∈ l -> x = 0) -> ∀ x, x ∈ pairN l -> x = 0 := by
    intro n
    induction n using Nat.strongRecOn with
    |_ n ih=>
     intro l hl h x hx
     match l,hl,h,hx with
     | [],_,_,hx=>simp [pairN] at hx
     | [_],_,_,hx=>simp [pairN] at hx
     |u::v::l,hl,h,hx=>
      rcases List.mem_cons.1 hx with rfl|hx
      ·rw [h u (by simp),h v (by simp)]
      ·exact ih l.length (by simp at hl;omega) l (Zv _) (fun z hz=>h z (by simp [hz])) x hx
   exact key S _ (by simp) (fun x hx=>List.eq_of_mem_replicate hx)
 unfold wAt;rw [Zm]
 cases e:(wd wb (List.replicate S 0))[t]? with
 |none=>rfl
 |some x=>exact h x (Zo e)
theorem dot_word {wb:Int} (hw:wb=8\/wb=16) (S:Nat) (hS:S % wN wb=0) (t:Nat) (c:List Int) (P:List (List Nat)) (hc: ∀x,x∈c->0<=x/\x<fsize wb) (hP: ∀q,q∈P->q.length=S/\ ∀z,z∈q->z<256):
  wAt wb t (dotN S wb c P)=evN wb c (P.map (wAt wb t)):=by
 unfold dotN;rw [dot_fold hw S hS t c P _ hc hP ⟨by simp,fun z hz=>by have:=List.eq_of_mem_replicate hz;omega⟩,wAt_zero wb hw,Nat.zero_xor]
theorem word_inj {wb:Int} (hw:wb=8\/wb=16) (S:Nat) (hS:S % wN wb=0) (a b:List Nat) (ha:a.length=S/\ ∀x,x∈a->x<256) (hb:b.length=S/\ ∀x,x∈b->x<256) (h: ∀t,wAt wb t a=wAt wb t b):a=b:=by
 refine wd_inj hw a b ha.2 hb.2 (by rw [ha.1];exact hS) (by rw [hb.1];exact hS) ?_;refine List.ext_getElem? (fun t=> ?_);have hl:(wd wb a).length=(wd wb b).length:=by rw [wd_len hw,wd_len hw,ha.1,hb.1]
 by_cases ht:t<(wd wb a).length
 ·have:=h t;unfold wAt at this;rw [Zm,Zm,Zf ht,Zf (by omega)] at this;rw [Zf ht,Zf (by omega)];exact congrArg some this
 ·rw [List.getElem?_eq_none (by omega),List.getElem?_eq_none (by omega)]
theorem evN_evK8: ∀(r:List Int) (v:List Nat),evN 8 r v=evK 7 285 (nOf r) v
 | [], [] =>rfl
 | [],_::_=>rfl
 |_::_, [] =>rfl
 |x::r,y::v=>by
  show gmN 8 x.toNat y^^^evN 8 r v=gm 7 285 x.toNat y^^^evK 7 285 (nOf r) v;rw [evN_evK8 r v];rfl
theorem evN_evK16: ∀(r:List Int) (v:List Nat),evN 16 r v=evK 15 69643 (nOf r) v
 | [], [] =>rfl
 | [],_::_=>rfl
 |_::_, [] =>rfl
 |x::r,y::v=>by
  show gmN 16 x.toNat y^^^evN 16 r v=gm 15 69643 x.toNat y^^^evK 15 69643 (nOf r) v;rw [evN_evK16 r v];rfl
theorem good_nOf {wb:Int} (hw:wb=8\/wb=16) {n:Nat} {A:List (List Int)} (h: ∀r,r∈A->Good wb n r): ∀r,r∈A.map nOf->r.length=n/\ ∀x,x∈r->x<fN wb:=by
 intro r hr;obtain ⟨q,hq,rfl⟩:=List.mem_map.1 hr;refine ⟨by rw [nOf_len];exact (h q hq).1,fun x hx=> ?_⟩;obtain ⟨y,hy,rfl⟩:=List.mem_map.1 hx;exact b3z hw ((h q hq).2 y hy)
theorem eHz (n:Nat) (G:List (List Int)) (hG: ∀r,r∈G->Good 8 n r) (h:chk 7 285 13 n (G.map nOf)=true) (A:List (List Int)) (hs:A.Sublist G) (hl:A.length=n):InjN 8 n A:=by
 intro v hv hx hz;have hk:=chk_inj gf8 13 n _ h (good_nOf (.inl rfl) hG) (A.map nOf) (hs.map nOf) (by rw [List.length_map,hl])
 exact hk v hv hx (fun r hr=>by
  obtain ⟨q,hq,rfl⟩:=List.mem_map.1 hr;rw [<-evN_evK8]
  exact hz q hq)
theorem injN_of16 (n:Nat) (G:List (List Int)) (hG: ∀r,r∈G->Good 16 n r) (h:chk 15 69643 13 n (G.map nOf)=true) (A:List (List Int)) (hs:A.Sublist G) (hl:A.length=n):InjN 16 n A:=by
 intro v hv hx hz;have hk:=chk_inj gf16 13 n _ h (good_nOf (.inr rfl) hG) (A.map nOf) (hs.map nOf) (by rw [List.length_map,hl])
 exact hk v hv hx (fun r hr=>by
  obtain ⟨q,hq,rfl⟩:=List.mem_map.1 hr;rw [<-evN_evK16]
  exact hz q hq)
theorem genM_good (p:Int) (K M:Nat) (h1:1<=K) (h2:1<=M) (h3:K<=8) (h4:M<=4):(∀r,r∈genM p K M->Good (pbits p) K r)/\(genM p K M).length=K+M:=by
 have hg:=cZz p K M h1 h2 h3 h4;unfold genM;refine ⟨fun r hr=> ?_,by rw [List.length_append,bwz,hg.2]⟩;rcases List.mem_append.1 hr with hr|hr
 ·exact djz _ (eVz p) K r hr
 ·exact hg.1 r hr
theorem may3: ∀K:Nat,K<9-> ∀M:Nat,M<5->avz.f 3 (K:Int) (M:Int)=some true->M<=3:=by decide+kernel
theorem inj_all (p:Int) (K M:Nat) (a0:avz.f p (K:Int) (M:Int)=some true) (A:List (List Int)) (hs:A.Sublist (genM p K M)) (hl:A.length=K):InjN (pbits p) K A:=by
 obtain ⟨p1,p2,k1,k2,m1,m2⟩:=bZz a0;have hg:=(genM_good p K M (by omega) (by omega) (by omega) (by omega)).1;rcases six p1 p2 with rfl|rfl|rfl|rfl|rfl|rfl
 ·exact eHz K _ hg (chk_1 K M (by omega) (by omega) (by omega) (by omega)) A hs hl
 ·exact injN_of16 K _ hg (chk_2 K M (by omega) (by omega) (by omega) (by omega)) A hs hl
 ·exact eHz K _ hg (chk_3 K M (by omega) (by omega) (by omega) (may3 K (by omega) M (by omega) a0)) A hs hl
 ·exact eHz K _ hg (chk_4 K M (by omega) (by omega) (by omega) (by omega)) A hs hl
 ·exact eHz K _ hg (chk_5 K M (by omega) (by omega) (by omega) (by omega)) A hs hl
 ·exact eHz K _ hg (chk_5 K M (by omega) (by omega) (by omega) (by omega)) A hs hl
theorem thereF_at: ∀(i:Nat) (l:List (List Int)) (hv:List Bool) (x:Nat×List Int),x∈thereF i l hv->i<=x.1/\l[x.1 - i]?=some x.2
 |_, [],_,x,h=>by simp [thereF] at h
 |_,_::_, [],x,h=>by simp [thereF] at h
 |i,b::l,h::hv,x,hx=>by
  have ih:=thereF_at (i+1) l hv x
  have fin:x∈thereF (i+1) l hv->i<=x.1/\(b::l)[x.1 - i]?=some x.2:=fun hq=>by
   obtain ⟨_,e2⟩:=ih hq;refine ⟨by omega,?_⟩;rw [show x.1 - i=(x.1 - (i+1))+1 by omega,List.getElem?_cons_succ];exact e2
  unfold thereF at hx;by_cases hh:h=true
  ·rw [Ya hh] at hx;rcases List.mem_cons.1 hx with rfl|hx
   ·exact ⟨Zv _,by simp⟩
   ·exact fin hx
  ·rw [Yb hh] at hx;exact fin hx
theorem thereF_sub: ∀(i:Nat) (l:List (List Int)) (hv:List Bool) (g:List (List Int)),g.length=l.length->((thereF i l hv).map fun x=>g.getD (x.1 - i) []).Sublist g
 |_, [],hv,g,_=>by simp [thereF]
 |_,_::_, [],g,_=>by simp [thereF]
 |i,b::l,h::hv, [],e=>by simp at e
 |i,b::l,h::hv,a::g,e=>by
  have ih:=thereF_sub (i+1) l hv g (by simpa using e)
  have hm:((thereF (i+1) l hv).map fun x=>(a::g).getD (x.1 - i) [])=(thereF (i+1) l hv).map fun x=>g.getD (x.1 - (i+1)) [] :=by
   refine List.map_congr_left (fun x hx=> ?_);have:=(thereF_at (i+1) l hv x hx).1;rw [show x.1 - i=(x.1 - (i+1))+1 by omega,List.getD_cons_succ]
  rw [thereF];by_cases hh:h=true
  ·rw [Ya hh,List.map_cons,hm];simp only [Nat.sub_self,List.getD_cons_zero];exact ih.cons_cons a
  ·rw [Yb hh,hm];exact ih.cons a
theorem e1z (sp:List Int): ∀(i:Nat) (l:List (List Int)) (hv:List Bool),l.length=hv.length->thereF i (List.zipWith (fun r h=>if h=true then r else sp) l hv) hv=thereF i l hv
 |_, [], [],_=>rfl
 |i,b::l,h::hv,e=>by
  have ih:=e1z sp (i+1) l hv (by simpa using e);rw [List.zipWith_cons_cons,thereF,thereF,ih];by_cases hh:h=true
  ·rw [Ya hh,Ya hh,Ya hh]
  ·rw [Yb hh,Yb hh]
theorem data_l_ev (wb:Int) (S:Nat) (a0:S<=1000000) (hS:S % wN wb=0) (first:List (List Int)) (h0:0<first.length) (hn:first.length<=1000) (hr: ∀r,r∈first->r.length=S): ∀(rs acc:List (List Int)),(∀c,c∈rs->c.length=first.length)->Ev (fun k=>awz.l k wb first rs acc) (acc++rs.map fun c=>dotV S wb c first,0)
 | [],acc,_=>by
  refine Ev.congr (fun k=> ?_) (Ev.now _);simp [awz.l]
 |c::rs,acc,hc=>by
  have h1:=dot_ev wb S a0 hS c first h0 (hc c (List.mem_cons_self ..)) hn hr
  have ih:=data_l_ev wb S a0 hS first h0 hn hr rs (acc++ [dotV S wb c first]) (fun q hq=>hc q (List.mem_cons_of_mem _ hq))
  rw [List.append_assoc] at ih;exact Ev.bind h1 ih
theorem shard_word (p:Int) (K M S:Nat) (b0:avz.f p (K:Int) (M:Int)=some true) (hS:S % wN (pbits p)=0) (data:List (List Int)) (hK:data.length=K) (hD:isBL data S) (j:Nat) (row g:List Int) (hj:(data++parV S p K M data)[j]?=some row) (hg:(genM p K M)[j]?=some g) (t:Nat):
  wAt (pbits p) t (nOf row)=evN (pbits p) g ((data.map nOf).map (wAt (pbits p) t)):=by
 obtain ⟨p1,p2,k1,k2,m1,m2⟩:=bZz b0;obtain ⟨e,hb⟩:=fkz hD;have hw:=eVz p;have hgd:=cZz p K M (by omega) (by omega) (by omega) (by omega);by_cases a0:j<K
 ·rw [List.getElem?_append_left (by omega)] at hj;unfold genM at hg;rw [List.getElem?_append_left (by rw [bwz];exact a0),identM_at K j a0] at hg;obtain rfl:=Zn hg
  have hu:((data.map nOf).map (wAt (pbits p) t)).getD j 0=wAt (pbits p) t (nOf row):=by
   rw [Zm,List.getElem?_map,List.getElem?_map,hj];rfl
  have hlt:wAt (pbits p) t (nOf row)<fN (pbits p):=wAt_lt hw t _ (nOf_lt row (hD row (Zo hj)).2)
  rw [evN_at hw _ _ j (by simp;omega) (by rw [hu];exact hlt) (by rw [eWz K j j a0,Ya rfl]) (fun i hi hne=> .inl (by
   rw [eWz K j i (by simp at hi;omega),Yb (fun h=>hne h.symm)])),hu]
 ·rw [List.getElem?_append_right (by omega),hK] at hj;unfold parV at hj;rw [List.getElem?_map] at hj;unfold genM at hg;rw [List.getElem?_append_right (by rw [bwz];omega),bwz] at hg;rw [hg] at hj;obtain rfl:=Zn hj;have hc:=hgd.1 g (Zo hg)
  have hdv:dotV S (pbits p) g data=castN (dotN S (pbits p) g (data.map nOf)):=by
   rw [<-eFz hw S g _ (fun q hq=>⟨(hb q hq).2,by rw [(hb q hq).1];exact hS⟩),e]
  show wAt (pbits p) t (nOf (dotV S (pbits p) g data))=_;rw [hdv]
  have hn:nOf (castN (dotN S (pbits p) g (data.map nOf)))=dotN S (pbits p) g (data.map nOf):=castN_inj _ _ (by
   rw [eUz _ (fun x hx=>by
    obtain ⟨y,hy,rfl⟩:=List.mem_map.1 hx;have:=dotN_lt _ _ _ _ y hy
    omega)])
  rw [hn,dot_word hw S hS t g _ hc.2 hb]
theorem first_tells (p:Int) (K M S:Nat) (a0:avz.f p (K:Int) (M:Int)=some true) (hS:S % wN (pbits p)=0) (data:List (List Int)) (hK:data.length=K) (hD:isBL data S) (hv:List Bool) (T:List (Nat×List Int)) (hT:thereF 0 (data++parV S p K M data) hv=T) (j0:K<=T.length):
  (invF (pbits p) (subM p K M (awz.is K T))).2=K/\(((invF (pbits p) (subM p K M (awz.is K T))).1.map (·.drop K)).map fun c=>dotV S (pbits p) c ((T.take K).map Prod.snd))=data/\(∀c,c∈(invF (pbits p) (subM p K M (awz.is K T))).1.map (·.drop K)->c.length=K):=by
 obtain ⟨p1,p2,k1,k2,m1,m2⟩:=bZz a0;obtain ⟨e,hb⟩:=fkz hD;have hw:=eVz p;have hgl:=genM_good p K M (by omega) (by omega) (by omega) (by omega);have hpl:=eEz S p K M data a0;have hpb:=parV_bytes p K M S data hS hD;have i0:(data++parV S p K M data).length=K+M:=by rw [List.length_append,hK,hpl]
 have h0:isBL (data++parV S p K M data) S:=fun r hr=>by
  rcases List.mem_append.1 hr with hr|hr
  ·exact hD r hr
  ·exact hpb r hr
 have hat: ∀x,x∈T->(data++parV S p K M data)[x.1]?=some x.2:=fun x hx=>by
  have:=(thereF_at 0 _ hv x (by rw [hT];exact hx)).2;rwa [Nat.sub_zero] at this
 have hA:subM p K M (awz.is K T)=(T.take K).map fun x=>(genM p K M).getD x.1 [] :=by
  unfold subM pickF awz.is;rw [List.map_map];refine List.map_congr_left (fun x _=> ?_);show (genM p K M).getD ((x.1:Int)).toNat [] =_;rw [Zu]
 have hsub:(subM p K M (awz.is K T)).Sublist (genM p K M):=by
  have h1:=thereF_sub 0 (data++parV S p K M data) hv (genM p K M) (by rw [hgl.2,i0]);rw [hT] at h1;rw [hA,List.map_take];exact (List.take_sublist _ _).trans h1
 have c0:(subM p K M (awz.is K T)).length=K:=by rw [hA,List.length_map,List.length_take];omega
 have e0: ∀r,r∈subM p K M (awz.is K T)->Good (pbits p) K r:=fun r hr=>hgl.1 r (hsub.subset hr)
 have hinj:=inj_all p K M a0 _ hsub c0
 have d0: ∀(i:Nat) (r:List Int),(subM p K M (awz.is K T))[i]?=some r-> ∃x,T[i]?=some x/\(genM p K M)[x.1]?=some r:=fun i r hr=>by
  rw [hA,List.getElem?_map,List.getElem?_take] at hr;split at hr
  ·cases hx:T[i]? with
   |none=>rw [hx] at hr;simp at hr
   |some x=>
    rw [hx] at hr;refine ⟨x,rfl,?_⟩;have h2:=(Zk (hat x (Zo hx))).1;have h3:(genM p K M).getD x.1 [] =r:=by simpa using hr
    rw [Zm,Zf (by rw [hgl.2];omega)] at h3;rw [Zf (by rw [hgl.2];omega)]
    simpa using h3
  ·simp at hr
 generalize subM p K M (awz.is K T)=A at hsub c0 e0 hinj d0
 have g0: ∀q,q∈(T.take K).map Prod.snd->q.length=S/\ ∀x,x∈q->0<=x/\x<=255:=fun q hq=>by
  obtain ⟨x,hx,rfl⟩:=List.mem_map.1 hq;exact h0 x.2 (Zo (hat x (List.mem_of_mem_take hx)))
 have hfl:((T.take K).map Prod.snd).length=K:=by rw [List.length_map,List.length_take];omega
 obtain ⟨ef,hfn⟩:=fkz g0
 have b0: ∀t,(invF (pbits p) A).2=K/\ ∀i y,(invF (pbits p) A).1[i]?=some y->((data.map nOf).map (wAt (pbits p) t)).getD i 0=evN (pbits p) (y.drop K) ((((T.take K).map Prod.snd).map nOf).map (wAt (pbits p) t)):=fun t=>
  inv_undo hw A K c0 e0 hinj _ _ (by simp [hK]) (fun x hx=>by
   obtain ⟨q,hq,rfl⟩:=List.mem_map.1 hx
   exact wAt_lt hw t q (hb q hq).2) (by simp;omega) (fun x hx=>by
   obtain ⟨q,hq,rfl⟩:=List.mem_map.1 hx
   exact wAt_lt hw t q (hfn q hq).2) (fun i r hr=>by
   obtain ⟨x,hx,hgx⟩:=d0 i r hr;have hiK:i<K:=by have:=(Zk hr).1;omega
   rw [<-shard_word p K M S a0 hS data hK hD x.1 x.2 r (hat x (Zo hx)) hgx t,Zm,List.getElem?_map,List.getElem?_map,List.getElem?_map,List.getElem?_take_of_lt hiK,hx]
   rfl)
 have hig:=invF_good hw A (by rw [c0];exact e0);rw [c0] at hig;refine ⟨(b0 0).1,?_,fun c hc=> ?_⟩
 ·refine List.ext_getElem? (fun i=> ?_);rw [List.map_map,List.getElem?_map];by_cases hi:i<K
  ·obtain ⟨y,hy⟩: ∃y,(invF (pbits p) A).1[i]?=some y:=⟨_,Zf (by omega)⟩;obtain ⟨d,hd⟩: ∃d,data[i]?=some d:=⟨_,Zf (by omega)⟩;have f0:=hD d (Zo hd);have hyg:=hig.1 y (Zo hy);have hcg: ∀x,x∈y.drop K->0<=x/\x<fsize (pbits p):=fun x hx=>hyg.2 x (List.mem_of_mem_drop hx)
   rw [hy,hd,Option.map_some];refine congrArg some ?_;show dotV S (pbits p) (y.drop K) ((T.take K).map Prod.snd)=d;rw [<-ef,eFz hw S _ _ (fun q hq=>⟨(hfn q hq).2,by rw [(hfn q hq).1];exact hS⟩), <-eUz d f0.2];refine congrArg castN (word_inj hw S hS _ _ ⟨?_,dotN_lt _ _ _ _⟩ ⟨by rw [nOf_len];exact f0.1,nOf_lt d f0.2⟩ (fun t=> ?_))
   ·have h1:=dotV_len (wb:=pbits p) (L:=S) hS (c:=y.drop K) (rows:=(((T.take K).map Prod.snd).map nOf).map castN) (fun q hq=>by rw [ef] at hq;exact (g0 q hq).1);rw [eFz hw S _ _ (fun q hq=>⟨(hfn q hq).2,by rw [(hfn q hq).1];exact hS⟩)] at h1
    simpa [castN] using h1
   ·rw [dot_word hw S hS t _ _ hcg hfn, <-(b0 t).2 i y hy,Zm,List.getElem?_map,List.getElem?_map,hd];rfl
  ·rw [List.getElem?_eq_none (by omega),List.getElem?_eq_none (by omega)];rfl
 ·obtain ⟨y,hy,rfl⟩:=List.mem_map.1 hc;have:=(hig.1 y hy).1;rw [List.length_drop];omega
def spL (sp:List Int) (l:List (List Int)) (hv:List Bool):List (List Int):=List.zipWith (fun r h=>if h=true then r else sp) l hv
theorem spL_length (sp:List Int) (l:List (List Int)) (hv:List Bool) (h:l.length=hv.length):(spL sp l hv).length=l.length:=by
 unfold spL;rw [List.length_zipWith, <-h,Nat.min_self]
theorem data_any (p:Int) (K M S:Nat) (a0:avz.f p (K:Int) (M:Int)=some true) (hS:S % wN (pbits p)=0) (c0:S<=1000000) (data:List (List Int)) (hK:data.length=K) (hD:isBL data S) (hv:List Bool) (hvl:hv.length=K+M) (hc:K<=trueN hv) (sp:List Int):
  Ev (fun k=>awz.f k p (K:Int) (M:Int) (spL sp (data++parV S p K M data) hv) hv) (data,0):=by
 obtain ⟨p1,p2,k1,k2,m1,m2⟩:=bZz a0;have hpl:=eEz S p K M data a0;have hpb:=parV_bytes p K M S data hS hD;have f0:(data++parV S p K M data).length=K+M:=by rw [List.length_append,hK,hpl]
 have e0: ∀r,r∈data++parV S p K M data->r.length=S:=fun r hr=>by
  rcases List.mem_append.1 hr with hr|hr
  ·exact (hD r hr).1
  ·exact (hpb r hr).1
 have hsl:(spL sp (data++parV S p K M data) hv).length=K+M:=by rw [spL_length _ _ _ (by omega),f0]
 have hth:thereF 0 (spL sp (data++parV S p K M data) hv) hv=thereF 0 (data++parV S p K M data) hv:=e1z sp 0 _ hv (by omega);have d0:(thereF 0 (data++parV S p K M data) hv).length=trueN hv:=ftz 0 _ hv (by omega);have b0: ∀x,x∈thereF 0 (data++parV S p K M data) hv->x.2.length=S:=fun x hx=>e0 x.2 (fgz 0 _ hv x hx)
 obtain ⟨T,hT⟩: ∃T,thereF 0 (data++parV S p K M data) hv=T:=⟨_,rfl⟩;obtain ⟨f1,f2,f3⟩:=first_tells p K M S a0 hS data hK hD hv T hT (by rw [<-hT,d0];exact hc);rw [hT] at hth d0 b0
 have hgood:goodL (pbits p) (len0 T) T=true:=by
  have h0:len0 T=S:=by
   obtain ⟨x,hx⟩: ∃x,T[0]?=some x:=⟨_,Zf (by omega)⟩;unfold len0;rw [Zm,hx];exact b0 x (Zo hx)
  unfold goodL;rw [List.all_eq_true];intro y hy;rw [h0,b0 y hy];unfold evB;rw [b0 y hy,hS];simp
 have hfm: ∀r,r∈(T.take K).map Prod.snd->r.length=S:=fun r hr=>by
  obtain ⟨x,hx,rfl⟩:=List.mem_map.1 hr;exact b0 x (List.mem_of_mem_take hx)
 have hfl:((T.take K).map Prod.snd).length=K:=by rw [List.length_map,List.length_take];omega
 have hsm:ayz.small ((T.take K).map Prod.snd)=true:=by
  simp only [ayz.small,Bool.and_eq_true,decide_eq_true_eq,List.all_eq_true];exact ⟨by omega,fun r hr=>by rw [hfm r hr];exact c0⟩
 have hl:=data_l_ev (pbits p) S c0 hS ((T.take K).map Prod.snd) (by omega) (by omega) hfm ((invF (pbits p) (subM p K M (awz.is K T))).1.map (·.drop K)) [] (fun c hc=>by rw [f3 c hc,hfl]);rw [f2,List.nil_append] at hl;refine Ev.congr (fun k=> ?_) hl;unfold awz.f;rw [fine_true p K M _ a0 (by omega) hsl,Zl,Ya rfl,Ya (by omega),hth,Zu,Zu,Yb (by omega),Ya hgood];unfold awz.g;rw [Yb (by omega),Ya hsm]
theorem same_ev (l:List (List Int)) (hl:l.length<=1000000):Ev (fun k=>bfz.f k l l) true:=by
 have key: ∀(m i:Nat),i+m=l.length->Ev (fun k=>bfz.l0 k l l (i:Int)) true:=by
  intro m
  induction m with
  |zero=>
   intro i hi;refine Ev.step (f:=fun _=>some true) (fun k=> ?_) (Ev.now _);rw [bfz.l0,Yb (by omega)]
  |succ m ih=>
   intro i hi;refine Ev.step (f:=fun k=>bfz.l0 k l l ((i+1:Nat):Int)) (fun k=> ?_) (ih (i+1) (by omega));rw [bfz.l0,Ya (by omega),Ya (by omega),Ya (by omega),Ya rfl,ddz (by omega)]
 exact Ev.congr (fun k=>by rw [bfz.f,Ya rfl];rfl) (key l.length 0 (by omega))
theorem u8_wf {x:Int} (h:(Lit.int .u8 x).wf=true):0<=x/\x<=255:=by
 simp [Lit.wf,IntKind.has] at h;have h1:IntKind.min .u8=0:=rfl;have h2:IntKind.max .u8=255:=rfl;omega
theorem flatten_set (size:Nat) (hs:0<size) (c:Int): ∀(rows:List (List Int)) (i:Nat),(∀r,r∈rows->r.length=size)->i / size<rows.length->(rows.set (i / size) ((rows.getD (i / size) []).set (i % size) c)).flatten=rows.flatten.set i c
 | [],i,_,h=>by simp at h
 |r::rs,i,hr,h=>by
  have hrl:=hr r (List.mem_cons_self ..);by_cases hi:i<size
  ·have h0:i / size=0:=Nat.div_eq_of_lt hi;have h1:i % size=i:=Nat.mod_eq_of_lt hi;rw [h0,h1];show (r.set i c++rs.flatten)=(r++rs.flatten).set i c;rw [List.set_append_left _ _ (by omega)]
  ·obtain ⟨j,rfl⟩: ∃j,i=j+size:=⟨i - size,by omega⟩;have h0:(j+size) / size=j / size+1:=Nat.add_div_right j hs;have h1:(j+size) % size=j % size:=Nat.add_mod_right j size;have ih:=flatten_set size hs c rs j (fun q hq=>hr q (List.mem_cons_of_mem _ hq)) (by rw [h0] at h;simp at h;omega);rw [h0,h1];show r++(rs.set (j / size) ((rs.getD (j / size) []).set (j % size) c)).flatten=(r++rs.flatten).set (j+size) c;rw [ih,List.set_append_right _ _ (by omega)];congr 2
   omega
theorem fill_flat (size:Nat) (hs:0<size): ∀(cs:List Int) (i:Nat) (rows r:List (List Int)),(∀r,r∈rows->r.length=size)->b0z.fill size cs i rows=some r->i+cs.length<=rows.flatten.length->r.flatten=rows.flatten.take i++cs++rows.flatten.drop (i+cs.length)
 | [],i,rows,r,_,h,hl=>by
  cases h
  simp
 |c::cs,i,rows,r,hr,h,hl=>by
  simp only [b0z.fill] at h;by_cases hlt:i / size<rows.length
  ·rw [Ya hlt] at h;have hf:=flatten_set size hs c rows i hr hlt
   have hrow: ∀x,x∈rows.set (i / size) ((rows.getD (i / size) []).set (i % size) c)->x.length=size:=fun x hx=>by
    rcases List.mem_or_eq_of_mem_set hx with hx|rfl
    ·exact hr x hx
    ·rw [List.length_set,Zm,Zf hlt];exact hr _ (List.getElem_mem ..)
   have ih:=fill_flat size hs cs (i+1) _ r hrow h (by rw [hf,List.length_set];simp only [List.length_cons] at hl;omega);rw [ih,hf];have hil:i<rows.flatten.length:=by simp only [List.length_cons] at hl;omega
   have e1:(rows.flatten.set i c).take (i+1)=rows.flatten.take i++ [c] :=by
    rw [List.take_add_one,List.getElem?_set_self hil,List.take_set_of_le (Zv _)];rfl
   have e2:(rows.flatten.set i c).drop (i+1+cs.length)=rows.flatten.drop (i+(c::cs).length):=by
    rw [List.drop_set_of_lt (by omega)];congr 1
    simp;omega
   rw [e1,e2];simp
  ·rw [Yb hlt] at h;cases h
theorem fuz (K size:Nat):(List.replicate K (List.replicate size (0:Int))).flatten=List.replicate (K*size) 0:=by
 induction K with
 |zero=>simp
 |succ K ih=>rw [List.replicate_succ,List.flatten_cons,ih,List.replicate_append_replicate,Nat.add_mul];congr 1;omega
theorem rp1_1: ∀m,m<4->acz.f 3000 8 285 1 ((m+1:Nat):Int)=some (jvM 8 1 (m+1),true):=by decide+kernel
theorem rp1_2: ∀m,m<4->acz.f 3000 8 285 2 ((m+1:Nat):Int)=some (jvM 8 2 (m+1),true):=by decide+kernel
theorem rp1_3: ∀m,m<4->acz.f 3000 8 285 3 ((m+1:Nat):Int)=some (jvM 8 3 (m+1),true):=by decide+kernel
theorem rp1_4: ∀m,m<4->acz.f 3000 8 285 4 ((m+1:Nat):Int)=some (jvM 8 4 (m+1),true):=by decide+kernel
theorem rp1_5: ∀m,m<4->acz.f 3000 8 285 5 ((m+1:Nat):Int)=some (jvM 8 5 (m+1),true):=by decide+kernel
theorem rp1_6: ∀m,m<4->acz.f 3000 8 285 6 ((m+1:Nat):Int)=some (jvM 8 6 (m+1),true):=by decide+kernel
theorem rp1_7: ∀m,m<4->acz.f 3000 8 285 7 ((m+1:Nat):Int)=some (jvM 8 7 (m+1),true):=by decide+kernel
theorem rp1_8: ∀m,m<4->acz.f 3000 8 285 8 ((m+1:Nat):Int)=some (jvM 8 8 (m+1),true):=by decide+kernel
theorem rpar_1 (K M:Nat) (h1:1<=K) (h2:K<=8) (h3:1<=M) (h4:M<=4):acz.f 3000 8 285 (K:Int) (M:Int)=some (jvM 8 K M,true):=by
 obtain ⟨m,rfl⟩: ∃m,M=m+1:=⟨M - 1,by omega⟩;have hk:K=1\/K=2\/K=3\/K=4\/K=5\/K=6\/K=7\/K=8:=by omega
 rcases hk with rfl|rfl|rfl|rfl|rfl|rfl|rfl|rfl
 ·exact rp1_1 m (by omega)
 ·exact rp1_2 m (by omega)
 ·exact rp1_3 m (by omega)
 ·exact rp1_4 m (by omega)
 ·exact rp1_5 m (by omega)
 ·exact rp1_6 m (by omega)
 ·exact rp1_7 m (by omega)
 ·exact rp1_8 m (by omega)
theorem rp2_1: ∀m,m<4->bcz.f 3000 16 69643 1 ((m+1:Nat):Int)=some (tabM 1 (m+1),true):=by decide+kernel
theorem rp2_2: ∀m,m<4->bcz.f 3000 16 69643 2 ((m+1:Nat):Int)=some (tabM 2 (m+1),true):=by decide+kernel
theorem rp2_3: ∀m,m<4->bcz.f 3000 16 69643 3 ((m+1:Nat):Int)=some (tabM 3 (m+1),true):=by decide+kernel
theorem rp2_4: ∀m,m<4->bcz.f 3000 16 69643 4 ((m+1:Nat):Int)=some (tabM 4 (m+1),true):=by decide+kernel
theorem rp2_5: ∀m,m<4->bcz.f 3000 16 69643 5 ((m+1:Nat):Int)=some (tabM 5 (m+1),true):=by decide+kernel
theorem rp2_6: ∀m,m<4->bcz.f 3000 16 69643 6 ((m+1:Nat):Int)=some (tabM 6 (m+1),true):=by decide+kernel
theorem rp2_7: ∀m,m<4->bcz.f 3000 16 69643 7 ((m+1:Nat):Int)=some (tabM 7 (m+1),true):=by decide+kernel
theorem rp2_8: ∀m,m<4->bcz.f 3000 16 69643 8 ((m+1:Nat):Int)=some (tabM 8 (m+1),true):=by decide+kernel
theorem rpar_2 (K M:Nat) (h1:1<=K) (h2:K<=8) (h3:1<=M) (h4:M<=4):bcz.f 3000 16 69643 (K:Int) (M:Int)=some (tabM K M,true):=by
 obtain ⟨m,rfl⟩: ∃m,M=m+1:=⟨M - 1,by omega⟩;have hk:K=1\/K=2\/K=3\/K=4\/K=5\/K=6\/K=7\/K=8:=by omega
 rcases hk with rfl|rfl|rfl|rfl|rfl|rfl|rfl|rfl
 ·exact rp2_1 m (by omega)
 ·exact rp2_2 m (by omega)
 ·exact rp2_3 m (by omega)
 ·exact rp2_4 m (by omega)
 ·exact rp2_5 m (by omega)
 ·exact rp2_6 m (by omega)
 ·exact rp2_7 m (by omega)
 ·exact rp2_8 m (by omega)
theorem rp3_1: ∀m,m<3->arz.f 3000 8 285 1 ((m+1:Nat):Int)=some (isalM 8 (m+1) 1,true):=by decide+kernel
theorem rp3_2: ∀m,m<3->arz.f 3000 8 285 2 ((m+1:Nat):Int)=some (isalM 8 (m+1) 2,true):=by decide+kernel
theorem rp3_3: ∀m,m<3->arz.f 3000 8 285 3 ((m+1:Nat):Int)=some (isalM 8 (m+1) 3,true):=by decide+kernel
theorem rp3_4: ∀m,m<3->arz.f 3000 8 285 4 ((m+1:Nat):Int)=some (isalM 8 (m+1) 4,true):=by decide+kernel
theorem rp3_5: ∀m,m<3->arz.f 3000 8 285 5 ((m+1:Nat):Int)=some (isalM 8 (m+1) 5,true):=by decide+kernel
theorem rp3_6: ∀m,m<3->arz.f 3000 8 285 6 ((m+1:Nat):Int)=some (isalM 8 (m+1) 6,true):=by decide+kernel
theorem rp3_7: ∀m,m<3->arz.f 3000 8 285 7 ((m+1:Nat):Int)=some (isalM 8 (m+1) 7,true):=by decide+kernel
theorem rp3_8: ∀m,m<3->arz.f 3000 8 285 8 ((m+1:Nat):Int)=some (isalM 8 (m+1) 8,true):=by decide+kernel
theorem rpar_3 (K M:Nat) (h1:1<=K) (h2:K<=8) (h3:1<=M) (h4:M<=3):arz.f 3000 8 285 (K:Int) (M:Int)=some (isalM 8 M K,true):=by
 obtain ⟨m,rfl⟩: ∃m,M=m+1:=⟨M - 1,by omega⟩;have hk:K=1\/K=2\/K=3\/K=4\/K=5\/K=6\/K=7\/K=8:=by omega
 rcases hk with rfl|rfl|rfl|rfl|rfl|rfl|rfl|rfl
 ·exact rp3_1 m (by omega)
 ·exact rp3_2 m (by omega)
 ·exact rp3_3 m (by omega)
 ·exact rp3_4 m (by omega)
 ·exact rp3_5 m (by omega)
 ·exact rp3_6 m (by omega)
 ·exact rp3_7 m (by omega)
 ·exact rp3_8 m (by omega)
theorem rp4_1: ∀m,m<4->bdz.f 3000 8 285 1 ((m+1:Nat):Int)=some (cauM 8 (runL 1 (m+1)) (runL 0 1),true):=by decide+kernel
theorem rp4_2: ∀m,m<4->bdz.f 3000 8 285 2 ((m+1:Nat):Int)=some (cauM 8 (runL 2 (m+1)) (runL 0 2),true):=by decide+kernel
theorem rp4_3: ∀m,m<4->bdz.f 3000 8 285 3 ((m+1:Nat):Int)=some (cauM 8 (runL 3 (m+1)) (runL 0 3),true):=by decide+kernel
theorem rp4_4: ∀m,m<4->bdz.f 3000 8 285 4 ((m+1:Nat):Int)=some (cauM 8 (runL 4 (m+1)) (runL 0 4),true):=by decide+kernel
theorem rp4_5: ∀m,m<4->bdz.f 3000 8 285 5 ((m+1:Nat):Int)=some (cauM 8 (runL 5 (m+1)) (runL 0 5),true):=by decide+kernel
theorem rp4_6: ∀m,m<4->bdz.f 3000 8 285 6 ((m+1:Nat):Int)=some (cauM 8 (runL 6 (m+1)) (runL 0 6),true):=by decide+kernel
theorem rp4_7: ∀m,m<4->bdz.f 3000 8 285 7 ((m+1:Nat):Int)=some (cauM 8 (runL 7 (m+1)) (runL 0 7),true):=by decide+kernel
theorem rp4_8: ∀m,m<4->bdz.f 3000 8 285 8 ((m+1:Nat):Int)=some (cauM 8 (runL 8 (m+1)) (runL 0 8),true):=by decide+kernel
theorem rpar_4 (K M:Nat) (h1:1<=K) (h2:K<=8) (h3:1<=M) (h4:M<=4):bdz.f 3000 8 285 (K:Int) (M:Int)=some (cauM 8 (runL K M) (runL 0 K),true):=by
 obtain ⟨m,rfl⟩: ∃m,M=m+1:=⟨M - 1,by omega⟩;have hk:K=1\/K=2\/K=3\/K=4\/K=5\/K=6\/K=7\/K=8:=by omega
 rcases hk with rfl|rfl|rfl|rfl|rfl|rfl|rfl|rfl
 ·exact rp4_1 m (by omega)
 ·exact rp4_2 m (by omega)
 ·exact rp4_3 m (by omega)
 ·exact rp4_4 m (by omega)
 ·exact rp4_5 m (by omega)
 ·exact rp4_6 m (by omega)
 ·exact rp4_7 m (by omega)
 ·exact rp4_8 m (by omega)
theorem rp5_1: ∀m,m<4->a5z.f 3000 8 285 1 ((m+1:Nat):Int)=some (sysM 8 1 (m+1),true):=by decide+kernel
theorem rp5_2: ∀m,m<4->a5z.f 3000 8 285 2 ((m+1:Nat):Int)=some (sysM 8 2 (m+1),true):=by decide+kernel
theorem rp5_3: ∀m,m<4->a5z.f 3000 8 285 3 ((m+1:Nat):Int)=some (sysM 8 3 (m+1),true):=by decide+kernel
theorem rp5_4: ∀m,m<4->a5z.f 3000 8 285 4 ((m+1:Nat):Int)=some (sysM 8 4 (m+1),true):=by decide+kernel
theorem rp5_5: ∀m,m<4->a5z.f 3000 8 285 5 ((m+1:Nat):Int)=some (sysM 8 5 (m+1),true):=by decide+kernel
theorem rp5_6: ∀m,m<4->a5z.f 3000 8 285 6 ((m+1:Nat):Int)=some (sysM 8 6 (m+1),true):=by decide+kernel
theorem rp5_7: ∀m,m<4->a5z.f 3000 8 285 7 ((m+1:Nat):Int)=some (sysM 8 7 (m+1),true):=by decide+kernel
theorem rp5_8: ∀m,m<4->a5z.f 3000 8 285 8 ((m+1:Nat):Int)=some (sysM 8 8 (m+1),true):=by decide+kernel
theorem rpar_5 (K M:Nat) (h1:1<=K) (h2:K<=8) (h3:1<=M) (h4:M<=4):a5z.f 3000 8 285 (K:Int) (M:Int)=some (sysM 8 K M,true):=by
 obtain ⟨m,rfl⟩: ∃m,M=m+1:=⟨M - 1,by omega⟩;have hk:K=1\/K=2\/K=3\/K=4\/K=5\/K=6\/K=7\/K=8:=by omega
 rcases hk with rfl|rfl|rfl|rfl|rfl|rfl|rfl|rfl
 ·exact rp5_1 m (by omega)
 ·exact rp5_2 m (by omega)
 ·exact rp5_3 m (by omega)
 ·exact rp5_4 m (by omega)
 ·exact rp5_5 m (by omega)
 ·exact rp5_6 m (by omega)
 ·exact rp5_7 m (by omega)
 ·exact rp5_8 m (by omega)
theorem rof_eq (q:Int):aSz.f q=bnz.f q:=by
 unfold aSz.f bnz.f;rfl
theorem evz (q k m:Int):bmz.f q k m=avz.f q k m:=by
 unfold bmz.f avz.f;rw [rof_eq]
theorem may_m3 {k m:Int} (h:avz.f 3 k m=some true):m<=3:=by
 have hm:=bZz h;unfold avz.f at h;rw [show bnz.f 3=some ((⟨#[105,114]⟩:ByteArray),8,285,105,3,true) from rfl,Zl] at h;dsimp only at h;rw [Ya rfl,Ya (by omega),Ya (by omega),Ya (by omega)] at h;exact Zc (Zn h)
theorem rof_ev (q:Int) (h1:1<=q) (h2:q<=6): ∃(t:ByteArray) (l mm:Int),aSz.f q=some (t,pbits q,fpoly (pbits q),l,mm,true):=by
 have hq:q=1\/q=2\/q=3\/q=4\/q=5\/q=6:=by omega
 rcases hq with rfl|rfl|rfl|rfl|rfl|rfl<;>exact ⟨_,_,_,rfl⟩
theorem rpar_ev (q:Int) (K M:Nat) (a0:avz.f q (K:Int) (M:Int)=some true):Ev (fun k=>bsz.f k q (K:Int) (M:Int)) (parM q K M,true):=by
 obtain ⟨p1,p2,k1,k2,m1,m2⟩:=bZz a0;have hgd:=cZz q K M (by omega) (by omega) (by omega) (by omega);have hq:q=1\/q=2\/q=3\/q=4\/q=5\/q=6:=by omega
 have b0:q=3->M<=3:=fun e=>by rw [e] at a0;have:=may_m3 a0;omega
 refine Ev.of (fun k=>bsz.mono _ _ _ k) (k:=3000) ?_;unfold bsz.f;rw [evz,a0,Zl,Ya rfl];rcases hq with rfl|rfl|rfl|rfl|rfl|rfl
 ·rw [show aSz.f 1=some ((⟨#[106,118]⟩:ByteArray),8,285,106,4,true) from rfl,Zl,Ya rfl];dsimp only;rw [rpar_1 K M (by omega) (by omega) (by omega) (by omega),Zl];rfl
 ·rw [show aSz.f 2=some ((⟨#[106,99]⟩:ByteArray),16,69643,106,4,true) from rfl,Zl,Yb (by decide),Ya rfl];dsimp only;rw [rpar_2 K M (by omega) (by omega) (by omega) (by omega),Zl,par2_tab K M (by omega) (by omega)]
 ·rw [show aSz.f 3=some ((⟨#[105,114]⟩:ByteArray),8,285,105,3,true) from rfl,Zl,Yb (by decide),Yb (by decide),Ya rfl];dsimp only;rw [rpar_3 K M (by omega) (by omega) (by omega) (b0 rfl),Zl];rfl
 ·rw [show aSz.f 4=some ((⟨#[105,99]⟩:ByteArray),8,285,105,4,true) from rfl,Zl,Yb (by decide),Yb (by decide),Yb (by decide),Ya rfl];dsimp only;rw [rpar_4 K M (by omega) (by omega) (by omega) (by omega),Zl];rfl
 all_goals
  have hsy:((sysM 8 K M).drop K).length=M:=hgd.2;rw [List.length_drop] at hsy
 ·rw [show aSz.f 5=some ((⟨#[98,98]⟩:ByteArray),8,285,98,4,true) from rfl,Zl,Yb (by decide),Yb (by decide),Yb (by decide),Yb (by decide)];dsimp only;rw [rpar_5 K M (by omega) (by omega) (by omega) (by omega),Zl,Ya (by omega),Ya (by dsimp only;omega),Zu];rfl
 ·rw [show aSz.f 6=some ((⟨#[107,112]⟩:ByteArray),8,285,112,4,true) from rfl,Zl,Yb (by decide),Yb (by decide),Yb (by decide),Yb (by decide)];dsimp only;rw [rpar_5 K M (by omega) (by omega) (by omega) (by omega),Zl,Ya (by omega),Ya (by dsimp only;omega),Zu];rfl
end Go.Proofs.Xc
end
