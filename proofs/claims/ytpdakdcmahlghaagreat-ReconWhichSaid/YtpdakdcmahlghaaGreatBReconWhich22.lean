-- Joined texts of this work (wip/tools/bundle.py).
import Derived.Test.YtpdakdcmahlghaaGreatBReconWhich21
set_option maxHeartbeats 8000000
set_option maxRecDepth 100000
set_option linter.unusedVariables false
set_option linter.unusedSimpArgs false
section
namespace Go.Proofs.Xc
open Go.RowKit Go.Proofs.Pw Go.Proofs.Pl Go.Proofs.Pm Tryz
attribute [local go_sem] a7z a8z bgz bhz aVz aWz a9z baz
def unitN (p:Int):Nat:=if p<=2 then 8 else if p<=4 then 16 else 1
def aheadN (p:Int):Nat:=if p=5 then 4 else 0
theorem rule_eq {p:Int} (h1:1<=p) (h2:p<=6) (k m:Int):e0z.f p k m=some ((unitN p:Int),(aheadN p:Int)):=by
 have:p=1\/p=2\/p=3\/p=4\/p=5\/p=6:=by omega
 rcases this with rfl|rfl|rfl|rfl|rfl|rfl<;>rfl
theorem w64 {x:Int} (h0: -1<=x) (h1:x<1000000000):wrap64 x=x:=by unfold wrap64;omega
theorem eDz (p:Int):1<=unitN p/\unitN p<=16:=by unfold unitN;split<;>(try split)<;>omega
theorem ejz (p:Int):aheadN p<=4:=by unfold aheadN;split<;>omega
def sizeN (p:Int) (K n:Nat):Nat:=unitN p*max ((n+aheadN p+unitN p*K - 1) / (unitN p*K)) 1
theorem sizeN_room (p:Int) (K n:Nat) (hK:1<=K):n+aheadN p<=sizeN p K n*K:=by
 have hu:=(eDz p).1;unfold sizeN;generalize n+aheadN p=t;obtain ⟨s,hs⟩: ∃s,unitN p*K=s:=⟨_,rfl⟩;have a0:1<=s:=by rw [<-hs];exact Nat.mul_pos hu hK
 rw [hs];have h1:=Nat.div_add_mod (t+s - 1) s;have h2:=Nat.mod_lt (t+s - 1) (show 0<s from a0);have h3:s*((t+s - 1) / s)<=s*max ((t+s - 1) / s) 1:=Nat.mul_le_mul_left _ (Nat.le_max_left _ _);have h4:unitN p*max ((t+s - 1) / s) 1*K=s*max ((t+s - 1) / s) 1:=by rw [<-hs,Nat.mul_assoc,Nat.mul_comm (max _ _) K, <-Nat.mul_assoc]
 rw [h4];omega
theorem sizeN_pos (p:Int) (K n:Nat):1<=sizeN p K n:=by
 unfold sizeN;exact Nat.mul_pos (eDz p).1 (Zp Nat.one_pos (Nat.le_max_right _ _))
theorem fhz (p:Int) (K n:Nat) (hK:1<=K) (a0:K<=8) (hn:n<=4096):sizeN p K n<=80000:=by
 have hu:=eDz p;have ha:=ejz p
 have h1:(n+aheadN p+unitN p*K - 1) / (unitN p*K)<=4300:=by
  have h2:unitN p*K<=16*8:=Nat.mul_le_mul hu.2 a0;exact Zt (Nat.div_le_self _ _) (by omega)
 unfold sizeN;exact Zt (Nat.mul_le_mul hu.2 (show max ((n+aheadN p+unitN p*K - 1) / (unitN p*K)) 1<=4300 by omega)) (by omega)
theorem sizeN_even (p:Int) (K n:Nat):sizeN p K n % wN (pbits p)=0:=by
 unfold pbits;by_cases h:p=2
 ·subst h;rw [Ya rfl];show (8*_) % 2=0;omega
 ·rw [Yb h];show _ % 1=0;omega
theorem size_ev (p:Int) (K M n:Nat) (a0:avz.f p (K:Int) (M:Int)=some true) (hn:n<=4096):Ev (fun k=>bAz.f k p (K:Int) (M:Int) (n:Int)) ((sizeN p K n:Int),0):=by
 obtain ⟨p1,p2,k1,k2,m1,m2⟩:=bZz a0;have hu:=eDz p;have ha:=ejz p;have hup:unitN p*K<=16*8:=Nat.mul_le_mul hu.2 (by omega);have b0:1<=unitN p*K:=Nat.mul_pos hu.1 (by omega);refine Ev.of (fun k=>bAz.mono _ _ _ _ k) (k:=1) ?_;unfold bAz.f;rw [a0,Zl,Ya rfl,show decide ((n:Int)<0)=false by simp];rw [bAz.j0];rw [Yb (by decide),Yb (by omega),rule_eq p1 p2,Zl]
 have w1:wrap64 ((unitN p:Int)*(K:Int))=((unitN p*K:Nat):Int):=by
  rw [<-Int.natCast_mul];unfold wrap64;omega
 dsimp only;rw [w1,Yb (by omega)]
 have w2:wrap64 (wrap64 (wrap64 ((n:Int)+(aheadN p:Int))+((unitN p*K:Nat):Int)) - 1)=((n+aheadN p+unitN p*K - 1:Nat):Int):=by
  generalize unitN p*K=s at hup b0|-;generalize aheadN p=a at ha|-;rw [w64 (x:=(n:Int)+(a:Int)) (by omega) (by omega),w64 (x:=(n:Int)+(a:Int)+(s:Int)) (by omega) (by omega),w64 (x:=(n:Int)+(a:Int)+(s:Int) - 1) (by omega) (by omega)];omega
 rw [w2,show Int.tdiv ((n+aheadN p+unitN p*K - 1:Nat):Int) ((unitN p*K:Nat):Int)=(((n+aheadN p+unitN p*K - 1) / (unitN p*K):Nat):Int) from (Int.ofNat_tdiv _ _).symm];have hle:=fhz p K n (by omega) (by omega) hn;unfold sizeN at hle|-;have hq:(n+aheadN p+unitN p*K - 1) / (unitN p*K)<=4300:=Zt (Nat.div_le_self _ _) (by omega);generalize (n+aheadN p+unitN p*K - 1) / (unitN p*K)=q at hle hq|-
 have w3:mx (wrap64 (q:Int)) 1=((max q 1:Nat):Int):=by
  rw [show wrap64 (q:Int)=(q:Int) by unfold wrap64;omega];unfold mx;split<;>omega
 rw [w3, <-Int.natCast_mul];rw [show wrap64 ((unitN p*max q 1:Nat):Int)=((unitN p*max q 1:Nat):Int) by unfold wrap64;omega]
theorem fill_some (size K : Nat) (hs : 1 <= size) : ∀ (cs : List Int) (i : Nat) (rows : List (List Int)), rows.length = K -> (∀ r, r ∈ rows -> r.length = size) -> i + cs.length <= size * K ->
  ∃r,b0z.fill size cs i rows=some r/\r.length=K/\(∀x,x∈r->x.length=size)/\(∀P:Int->Prop,(∀c,c∈cs->P c)->(∀x,x∈rows-> ∀c,c∈x->P c)-> ∀x,x∈r-> ∀c,c∈x->P c)
 | [],i,rows,h1,h2,h3=>⟨rows,rfl,h1,h2,fun P _ h=>h⟩
 |c::cs,i,rows,h1,h2,h3=>by
  have hlt:i / size<rows.length:=by
   rw [h1];exact (Nat.div_lt_iff_lt_mul hs).2 (by rw [Nat.mul_comm];simp at h3;omega)
  obtain ⟨row,hrow⟩: ∃r,rows[i / size]?=some r:=⟨_,Zf hlt⟩;have hm:=Zo hrow;have hd:rows.getD (i / size) [] =row:=by rw [Zm,hrow];rfl
  obtain ⟨r,q1,q2,q3,q4⟩:=fill_some size K hs cs (i+1) (rows.set (i / size) (row.set (i % size) c)) (by rw [List.length_set];exact h1) (fun x hx=>by
   rcases List.mem_or_eq_of_mem_set hx with hx|rfl
   ·exact h2 x hx
   ·rw [List.length_set];exact h2 row hm) (by simp at h3;omega)
  refine ⟨r,?_,q2,q3,fun P hc hr=>q4 P (fun c hh=>hc c (List.mem_cons_of_mem _ hh)) (fun x hx=> ?_)⟩
  ·simp only [b0z.fill];rw [Ya hlt,hd];exact q1
  ·rcases List.mem_or_eq_of_mem_set hx with hx|rfl
   ·exact hr x hx
   ·intro y hy;rcases List.mem_or_eq_of_mem_set hy with hy|rfl
    ·exact hr row hm y hy
    ·exact hc _ (List.mem_cons_self ..)
theorem laidL_len (p:Int) (b:List Int):(laidL (aheadN p) b).length=b.length+aheadN p:=by
 unfold laidL four4;have:=ejz p;simp;omega
theorem laidL_byte (a:Nat) (b:List Int) (hb: ∀x,x∈b->0<=x/\x<=255): ∀x,x∈laidL a b->0<=x/\x<=255:=by
 intro x hx;unfold laidL at hx;rcases List.mem_append.1 hx with h|h
 ·have h:=List.mem_of_mem_drop h;simp only [four4,List.mem_cons,List.mem_nil_iff,or_false] at h;rcases h with rfl|rfl|rfl|rfl<;>omega
 ·exact hb x h
theorem split_ev (p:Int) (K M:Nat) (b:List Int) (a0:avz.f p (K:Int) (M:Int)=some true) (hn:b.length<=4096):
  ∃data,data.length=K/\(∀r,r∈data->r.length=sizeN p K b.length)/\((∀x,x∈b->0<=x/\x<=255)-> ∀r,r∈data-> ∀x,x∈r->0<=x/\x<=255)/\b0z.fill (sizeN p K b.length) (laidL (aheadN p) b) 0 (List.replicate K (List.replicate (sizeN p K b.length) 0))=some data/\Ev (fun k=>b0z.f k p (K:Int) (M:Int) b) (data,0):=by
 obtain ⟨p1,p2,k1,k2,m1,m2⟩:=bZz a0;have b0:=sizeN_pos p K b.length;have e0:=fhz p K b.length (by omega) (by omega) hn;have d0:=sizeN_room p K b.length (by omega);obtain ⟨data,q1,q2,q3,q4⟩:=fill_some (sizeN p K b.length) K b0 (laidL (aheadN p) b) 0 (List.replicate K (List.replicate (sizeN p K b.length) 0)) (by simp) (fun r hr=>by rw [List.eq_of_mem_replicate hr];simp) (by rw [laidL_len];omega)
 refine ⟨data,q2,q3,fun hb=>q4 _ (laidL_byte _ b hb) (fun x hx c hc=>by
  rw [List.eq_of_mem_replicate hx] at hc;rw [List.eq_of_mem_replicate hc]
  omega),q1,?_⟩
 obtain ⟨k0,c0⟩:=size_ev p K M b.length a0 hn;refine ⟨k0,fun k hk=> ?_⟩;have h1:bAz.f k p (K:Int) (M:Int) (b.length:Int)=some ((sizeN p K b.length:Int),0):=c0 k hk;show b0z.f k p (K:Int) (M:Int) b=some (data,0);unfold b0z.f;rw [h1,Zl,Ya rfl,Ya (by omega),Ya (by omega),Ya (by show (1:Int)<=_;omega),Ya (by show _<=(100000:Int);omega),Ya (by omega),rule_eq p1 p2,Zl,Ya (by have:=ejz p;dsimp only;unfold aheadN;split<;>omega),Zu,Zu,Zu,q1];rfl
theorem eEz (L:Nat) (p:Int) (K M:Nat) (data:List (List Int)) (a0:avz.f p (K:Int) (M:Int)=some true):(parV L p K M data).length=M:=by
 obtain ⟨p1,p2,k1,k2,m1,m2⟩:=bZz a0;unfold parV;rw [List.length_map,(cZz p K M (by omega) (by omega) (by omega) (by omega)).2]
theorem some_ev (a b c:Int) (ha:0<=a/\a<=255) (hb:0<=b/\b<=255) (hc:0<=c/\c<=255): ∃(p:Int) (K M:Nat),cnz.f a b c=some (p,(K:Int),(M:Int))/\avz.f p (K:Int) (M:Int)=some true/\(avz.f 1 (K:Int) (M:Int)=some true)/\avz.f 3 (K:Int) (mn (M:Int) 3)=some true:=by
 have e1:wrap64 (1+Int.tmod (wrap64 a) 6)=1+a % 6:=by
  rw [show wrap64 a=a by unfold wrap64;omega,Int.tmod_eq_emod_of_nonneg (by omega)];unfold wrap64;omega
 have e2:wrap64 (1+Int.tmod (wrap64 b) 8)=1+b % 8:=by
  rw [show wrap64 b=b by unfold wrap64;omega,Int.tmod_eq_emod_of_nonneg (by omega)];unfold wrap64;omega
 have e3: ∀m:Int,1<=m->m<=4->wrap64 (1+Int.tmod (wrap64 c) m)=1+c % m:=fun m h1 h2=>by
  rw [show wrap64 c=c by unfold wrap64;omega,Int.tmod_eq_emod_of_nonneg (by omega)];have:=Int.emod_nonneg c (show m≠0 by omega);have:=Int.emod_lt_of_pos c (show 0<m by omega);unfold wrap64;omega
 unfold cnz.f;rw [e1,e2];obtain ⟨p,hp⟩: ∃p,1+a % 6=p:=⟨_,rfl⟩;obtain ⟨K,hK⟩: ∃K:Nat,1+b % 8=(K:Int):=⟨(1+b % 8).toNat,by omega⟩;have d0:1<=(K:Int)/\(K:Int)<=8:=by omega
 rw [hp,hK]
 have a0: ∀(s:ByteArray) (x y z:Int) (m:Int),(m=3\/m=4)->aSz.f p=some (s,x,y,z,m,true)->(∀k M:Int,1<=k->k<=8->1<=M->M<=m->avz.f p k M=some true)-> ∃(p':Int) (K' M:Nat),((aSz.f p).bind fun c0=>(if c0.2.2.2.2.1=0 then none else some (p,(K:Int),wrap64 (1+Int.tmod (wrap64 c) c0.2.2.2.2.1))))=some (p',(K':Int),(M:Int))/\avz.f p' (K':Int) (M:Int)=some true/\(avz.f 1 (K':Int) (M:Int)=some true)/\avz.f 3 (K':Int) (mn (M:Int) 3)=some true:=by
  intro s x y z m hm hof b0;have hcm:0<=c % m/\c % m<m:=⟨Int.emod_nonneg c (by omega),Int.emod_lt_of_pos c (by omega)⟩;obtain ⟨M,hM⟩: ∃M:Nat,1+c % m=(M:Int):=⟨(1+c % m).toNat,by omega⟩;have e0:1<=(M:Int)/\(M:Int)<=m:=by omega
  refine ⟨p,K,M,?_,b0 _ _ d0.1 d0.2 e0.1 e0.2,?_,?_⟩
  ·rw [hof,Zl];dsimp only;rw [Yb (by omega),e3 m (by omega) (by omega),hM]
  ·show (if (K:Int)>=1 then (if (K:Int)<=8 then (if (M:Int)>=1 then some (decide ((M:Int)<=4)) else some false) else some false) else some false)=some true;rw [Ya d0.1,Ya d0.2,Ya e0.1];simp;omega
  ·show (if (K:Int)>=1 then (if (K:Int)<=8 then (if mn (M:Int) 3>=1 then some (decide (mn (M:Int) 3<=3)) else some false) else some false) else some false)=some true;have f0:1<=mn (M:Int) 3/\mn (M:Int) 3<=3:=by unfold mn;split<;>omega
   rw [Ya d0.1,Ya d0.2,Ya f0.1];simp;omega
 have b0: ∀m:Int,(∀k M:Int,avz.f p k M=(if k>=1 then (if k<=8 then (if M>=1 then some (decide (M<=m)) else some false) else some false) else some false))-> ∀k M:Int,1<=k->k<=8->1<=M->M<=m->avz.f p k M=some true:=fun m h k M h1 h2 h3 h4=>by
  rw [h,Ya h1,Ya h2,Ya h3]
  simpa using h4
 have hpc:p=1\/p=2\/p=3\/p=4\/p=5\/p=6:=by omega
 clear hp e1 e2;rcases hpc with rfl|rfl|rfl|rfl|rfl|rfl
 ·exact a0 _ _ _ _ 4 (.inr rfl) rfl (b0 4 (fun _ _=>rfl))
 ·exact a0 _ _ _ _ 4 (.inr rfl) rfl (b0 4 (fun _ _=>rfl))
 ·exact a0 _ _ _ _ 3 (.inl rfl) rfl (b0 3 (fun _ _=>rfl))
 ·exact a0 _ _ _ _ 4 (.inr rfl) rfl (b0 4 (fun _ _=>rfl))
 ·exact a0 _ _ _ _ 4 (.inr rfl) rfl (b0 4 (fun _ _=>rfl))
 ·exact a0 _ _ _ _ 4 (.inr rfl) rfl (b0 4 (fun _ _=>rfl))
def trueN:List Bool->Nat
 | [] =>0
 |b::l=>(if b=true then 1 else 0)+trueN l
theorem trueN_set: ∀(l:List Bool) (i:Nat),l[i]?=some true->trueN (l.set i false)+1=trueN l
 | [],i,h=>by simp at h
 |b::l,0,h=>by
  have:b=true:=by simpa using h
  subst this;show (if false=true then 1 else 0)+trueN l+1=(if true=true then 1 else 0)+trueN l;simp;omega
 |b::l,i+1,h=>by
  have:=trueN_set l i (by simpa using h);show (if b=true then 1 else 0)+trueN (l.set i false)+1=(if b=true then 1 else 0)+trueN l;omega
theorem trueN_pos: ∀(l:List Bool),0<trueN l-> ∃j:Nat,l[j]?=some true
 | [],h=>by simp [trueN] at h
 |true::l,_=>⟨0,rfl⟩
 |false::l,h=>by
  obtain ⟨j,hj⟩:=trueN_pos l (by simpa [trueN] using h);exact ⟨j+1,by simpa using hj⟩
theorem eTz: ∀n:Nat,trueN (List.replicate n true)=n
 |0=>rfl
 |n+1=>by
  rw [List.replicate_succ,trueN,eTz n];simp;omega
theorem ftz: ∀(i:Nat) (l:List (List Int)) (hv:List Bool),l.length=hv.length->(thereF i l hv).length=trueN hv
 |i, [], [],_=>rfl
 |i,b::l,h::hv,e=>by
  have:=ftz (i+1) l hv (by simpa using e);rw [thereF,trueN];by_cases hh:h=true
  ·rw [Ya hh,Ya hh,List.length_cons,this];omega
  ·rw [Yb hh,Yb hh,this];omega
theorem lost_l2 (n L s : Nat) (hn : n <= 1000) (hs : s <= 1000) (hv : List Bool) (hl : hv.length = n) (t : Nat) (ht : t <= 1000) (Q : List Bool -> Prop)
  (H: ∀i,i<n->hv[i]?=some true-> ∃R,Q R/\Ev (fun k=>anz.l1 k (n:Int) (L:Int) (s:Int) (hv.set i false) (((i+s) % n:Nat):Int) ((t+1:Nat):Int)) R):
  ∀(d i:Nat),i<n->hv[(i+d) % n]?=some true-> ∃R,Q R/\Ev (fun k=>anz.l2 k (n:Int) (L:Int) (s:Int) hv (i:Int) (t:Int)) R:=by
 intro d
 induction d with
 |zero=>
  intro i hi h;rw [Nat.add_zero,Nat.mod_eq_of_lt hi] at h;obtain ⟨R,hQ,hE⟩:=H i hi h;refine ⟨R,hQ,Ev.step (fun k=> ?_) hE⟩
  have hrd:rdOf false hv (i:Int)=true:=by
   unfold rdOf;rw [Zu,Zm,h];rfl
  rw [anz.l2,Ya (by omega),Ya (by omega),Ya hrd,Yb (by omega),Zu,show (i:Int)+(s:Int)=((i+s:Nat):Int) by omega,w64 (x:=((i+s:Nat):Int)) (by omega) (by omega),ddz (by omega),show Int.tmod ((i+s:Nat):Int) (n:Int)=(((i+s) % n:Nat):Int) from (Int.ofNat_tmod _ _).symm]
 |succ d ih=>
  intro i hi h;obtain ⟨b,hb⟩: ∃b,hv[i]?=some b:=⟨_,Zf (by omega)⟩
  have hrd:rdOf false hv (i:Int)=b:=by
   unfold rdOf;rw [Zu,Zm,hb];rfl
  cases b with
  |true=>
   obtain ⟨R,hQ,hE⟩:=H i hi hb;refine ⟨R,hQ,Ev.step (fun k=> ?_) hE⟩;rw [anz.l2,Ya (by omega),Ya (by omega),Ya hrd,Yb (by omega),Zu,show (i:Int)+(s:Int)=((i+s:Nat):Int) by omega,w64 (x:=((i+s:Nat):Int)) (by omega) (by omega),ddz (by omega),show Int.tmod ((i+s:Nat):Int) (n:Int)=(((i+s) % n:Nat):Int) from (Int.ofNat_tmod _ _).symm]
  |false=>
   have hm:((i+1) % n+d) % n=(i+(d+1)) % n:=by
    rw [Nat.mod_add_mod];congr 1;omega
   obtain ⟨R,hQ,hE⟩:=ih ((i+1) % n) (Nat.mod_lt _ (by omega)) (by rw [hm];exact h);refine ⟨R,hQ,Ev.step (fun k=> ?_) hE⟩;rw [anz.l2,Ya (by omega),Ya (by omega),hrd,Yb (by decide),Yb (by omega),ddz (by omega),show Int.tmod ((i+1:Nat):Int) (n:Int)=(((i+1) % n:Nat):Int) from (Int.ofNat_tmod _ _).symm]
theorem lost_l1 (n L s : Nat) (a0 : 0 < n) (hn : n <= 1000) (hs : s <= 1000) : ∀ (m t : Nat) (hv : List Bool) (i : Nat), t + m = min L n -> hv.length = n -> trueN hv + t = n -> i < n ->
  ∃R,(R.length=n/\trueN R+min L n=n)/\Ev (fun k=>anz.l1 k (n:Int) (L:Int) (s:Int) hv (i:Int) (t:Int)) R:=by
 intro m
 induction m with
 |zero=>
  intro t hv i hm hl hc hi;refine ⟨hv,⟨hl,by omega⟩,?_⟩
  have he:Ev (fun k=>anz.j2 k (n:Int) (L:Int) (s:Int) hv (i:Int) (t:Int) false) hv:=by
   refine Ev.step (f:=fun _=>some hv) (fun k=> ?_) (Ev.now _);rw [anz.j2,Yb (by decide)]
  refine Ev.step (fun k=> ?_) he;rw [anz.l1];by_cases h:(t:Int)<(L:Int)
  ·rw [Ya h,Ze (by omega)]
  ·rw [Yb h]
 |succ m ih=>
  intro t hv i hm hl hc hi;obtain ⟨j,hj⟩:=trueN_pos hv (by omega)
  have hjn:j<n:=by
   have:=(Zk hj).1;omega
  obtain ⟨R,hQ,hE⟩:=lost_l2 n L s hn hs hv hl t (by omega) (fun R=>R.length=n/\trueN R+min L n=n) (fun i' hi' hb=>ih (t+1) (hv.set i' false) ((i'+s) % n) (by omega) (by rw [List.length_set];exact hl) (by have:=trueN_set hv i' hb;omega) (Nat.mod_lt _ a0)) (j+n - i) i hi
   (by rw [show i+(j+n - i)=j+n by omega,Nat.add_mod_right,Nat.mod_eq_of_lt hjn];exact hj)
  have he:Ev (fun k=>anz.j2 k (n:Int) (L:Int) (s:Int) hv (i:Int) (t:Int) true) R:=by
   refine Ev.step (fun k=> ?_) hE;rw [anz.j2,Ya rfl]
  refine ⟨R,hQ,Ev.step (fun k=> ?_) he⟩;rw [anz.l1,Ya (by omega),Zd (by omega)]
theorem lost_l0 (n L f s : Nat) (hn : n <= 1000) (R : List Bool) (h : Ev (fun k => anz.l1 k (n : Int) (L : Int) (s : Int) (List.replicate n true) ((f % n : Nat) : Int) ((0 : Nat) : Int)) R) : ∀ (m i : Nat), i + m = n ->
  0<n->Ev (fun k=>anz.l0 k (n:Int) (L:Int) (f:Int) (s:Int) (List.replicate i true) (i:Int)) R:=by
 intro m
 induction m with
 |zero=>
  intro i hi h0;obtain rfl:i=n:=by omega
  refine Ev.step (fun k=> ?_) h;rw [anz.l0,Yb (by omega),Yb (by omega),show Int.tmod (f:Int) (i:Int)=((f % i:Nat):Int) from (Int.ofNat_tmod _ _).symm];rfl
 |succ m ih=>
  intro i hi h0;refine Ev.step (fun k=> ?_) (ih (i+1) (by omega) h0);rw [anz.l0,Ya (by omega),Ya (by rw [List.length_replicate];omega),ddz (by omega), <-List.replicate_succ']
theorem lost_ev (n L f s:Nat) (a0:0<n) (hn:n<=1000) (hs:s<=1000): ∃hv,(hv.length=n/\trueN hv+min L n=n)/\Ev (fun k=>anz.f k (n:Int) (L:Int) (f:Int) (s:Int)) hv:=by
 obtain ⟨R,hQ,hE⟩:=lost_l1 n L s a0 hn hs (min L n) 0 (List.replicate n true) (f % n) (by omega) (by simp) (by rw [eTz];omega) (Nat.mod_lt _ a0);exact ⟨R,hQ,Ev.congr (fun _=>rfl) (lost_l0 n L f s hn R hE n 0 (by omega) a0)⟩
theorem fine_true (p:Int) (K M:Nat) (L:List (List Int)) (a0:avz.f p (K:Int) (M:Int)=some true) (hb:K+M<=1000) (hL:L.length=K+M):cyz.f p (K:Int) (M:Int) L=some true:=by
 unfold cyz.f;rw [a0,Zl,Ya rfl,hL,w64 (by omega) (by omega),show (((K+M:Nat):Int)==(K:Int)+(M:Int))=true by simp]
def fmu (m q a b:Nat):Nat:=if a=0 then 0 else if b=0 then 0 else if a=1 then b else if b=1 then a else gm m q a b
def evK (m q:Nat):List Nat->List Nat->Nat
 |x::r,y::v=>gm m q x y^^^evK m q r v
 |_,_=>0
def pv:List Nat->Nat
 | [] =>0
 |x::r=>if x=0 then pv r+1 else 0
def ers:Nat->List Nat->List Nat
 |_, [] => []
 |0,_::r=>r
 |c+1,x::r=>x::ers c r
def gtc:List Nat->Nat->Nat
 | [],_=>0
 |x::_,0=>x
 |_::r,c+1=>gtc r c
def lin (m q a d:Nat):List Nat->List Nat->List Nat
 |x::s,y::r=>(fmu m q a x^^^fmu m q d y)::lin m q a d s r
 |_,_=> []
def elmk (m q c a:Nat) (r s:List Nat):List Nat:=if gtc s c=0 then ers c s else ers c (lin m q a (gtc s c) s r)
def chk (m q:Nat):Nat->Nat->List (List Nat)->Bool
 |0,n,_=>n==0
 |_+1,0,_=>true
 |_+1,_+1, [] =>true
 |f+1,n+1,r::rs=>if rs.length<n then true else (chk m q f (n+1) rs&&(gtc r (pv r) !=0&&chk m q f n (rs.map (elmk m q (pv r) (gtc r (pv r)) r))))
def InjK (m q n:Nat) (A:List (List Nat)):Prop:= ∀v:List Nat,v.length=n->(∀x,x∈v->x<2^(m+1))->(∀r,r∈A->evK m q r v=0)-> ∀x,x∈v->x=0
theorem gt_ge: ∀(r:List Nat) (c:Nat),r.length<=c->gtc r c=0
 | [],_,_=>rfl
 |_::_,0,h=>by simp at h
 |_::r,c+1,h=>gt_ge r c (by simpa using h)
theorem gt_mem: ∀(r:List Nat) (c:Nat),gtc r c≠0->gtc r c∈r
 | [],_,h=>Yf rfl h
 |x::_,0,_=>List.mem_cons_self ..
 |_::r,c+1,h=>List.mem_cons_of_mem _ (gt_mem r c h)
theorem ers_len: ∀(c:Nat) (r:List Nat),c<r.length->(ers c r).length+1=r.length
 |_, [],h=>by simp at h
 |0,_::r,_=>rfl
 |c+1,x::r,h=>by
  have:=ers_len c r (by simpa using h);simp [ers,this]
theorem ers_mem: ∀(c:Nat) (r:List Nat) (x:Nat),x∈ers c r->x∈r
 |_, [],_,h=>by simp [ers] at h
 |0,_::r,_,h=>List.mem_cons_of_mem _ h
 |c+1,y::r,x,h=>by
  rcases List.mem_cons.1 h with rfl|h
  ·exact List.mem_cons_self ..
  ·exact List.mem_cons_of_mem _ (ers_mem c r x h)
theorem ers_all: ∀(c:Nat) (r:List Nat),(∀x,x∈ers c r->x=0)->gtc r c=0-> ∀x,x∈r->x=0
 |_, [],_,_,_,h=>by simp at h
 |0,y::r,h,hg,x,hx=>by
  rcases List.mem_cons.1 hx with rfl|hx
  ·exact hg
  ·exact h x hx
 |c+1,y::r,h,hg,x,hx=>by
  rcases List.mem_cons.1 hx with rfl|hx
  ·exact h _ (List.mem_cons_self ..)
  ·exact ers_all c r (fun z hz=>h z (List.mem_cons_of_mem _ hz)) hg x hx
theorem lin_len (m q a d:Nat): ∀(s r:List Nat),s.length=r.length->(lin m q a d s r).length=r.length
 | [], [],_=>rfl
 | [],_::_,h=>by simp at h
 |_::_, [],h=>by simp at h
 |x::s,y::r,h=>by simp [lin,lin_len m q a d s r (by simpa using h)]
theorem evK_ers (m q:Nat): ∀(c:Nat) (r v:List Nat),evK m q r v=gm m q (gtc r c) (gtc v c)^^^evK m q (ers c r) (ers c v)
 |c, [],v=>by
  have e1:ers c [] = [] :=by cases c<;>rfl
  have e2: ∀v,evK m q [] v=0:=fun v=>rfl
  rw [e1,e2,e2,show gtc [] c=0 from rfl,Gf.dmz];rfl
 |c,x::r, [] =>by
  have e: ∀r:List Nat,evK m q r [] =0:=fun r=>by cases r<;>rfl
  have e1:ers c [] = [] :=by cases c<;>rfl
  rw [e1,e,e,show gtc [] c=0 from rfl,Gf.caz];rfl
 |0,x::r,y::v=>rfl
 |c+1,x::r,y::v=>by
  have ih:=evK_ers m q c r v;show gm m q x y^^^evK m q r v=gm m q (gtc r c) (gtc v c)^^^(gm m q x y^^^evK m q (ers c r) (ers c v));rw [ih, <-Nat.xor_assoc, <-Nat.xor_assoc,Nat.xor_comm (gm m q x y)]
theorem evK_alone (m q:Nat): ∀(r v:List Nat) (c:Nat),(∀x,x∈ers c v->x=0)->evK m q r v=gm m q (gtc r c) (gtc v c)
 |r,v,c,h=>by
  rw [evK_ers m q c r v]
  have: ∀(r v:List Nat),(∀x,x∈v->x=0)->evK m q r v=0:=by
   intro r
   induction r with
   |nil=>intro v _;rfl
   |cons x r ih=>
    intro v hv
    cases v with
    |nil=>rfl
    |cons y v=>
     show gm m q x y^^^evK m q r v=0;rw [hv y (List.mem_cons_self ..),Gf.caz,ih v (fun z hz=>hv z (List.mem_cons_of_mem _ hz))];rfl
  rw [this _ _ h,Nat.xor_zero]
section
variable {m q : Nat} {l : List Nat} (F : GfInv m q l)
include F
theorem fmu_gm {a b:Nat} (ha:a<2^(m+1)) (hb:b<2^(m+1)):fmu m q a b=gm m q a b:=by
 unfold fmu;by_cases h1:a=0
 ·rw [Ya h1,h1];exact (Gf.dmz b).symm
 ·rw [Yb h1];by_cases h2:b=0
  ·rw [Ya h2,h2];exact (Gf.caz a).symm
  ·rw [Yb h2];by_cases h3:a=1
   ·rw [Ya h3,h3];exact (F.dnz hb).symm
   ·rw [Yb h3];by_cases h4:b=1
    ·rw [Ya h4,h4];exact (F.eIz ha).symm
    ·rw [Yb h4]
theorem gm_nz {a b:Nat} (ha:a<2^(m+1)) (hb:b<2^(m+1)) (h0:a≠0) (h:gm m q a b=0):b=0:=by
 have hi:=F.inv_left ha h0;have hp:=F.gp_lt ha (2^(m+1) - 2);have h1:gm m q (gp m q a (2^(m+1) - 2)) (gm m q a b)=0:=by rw [h];exact Gf.caz _
 rw [<-F.assoc hp ha,F.comm hp ha,hi] at h1;rwa [F.dnz hb] at h1
theorem lin_lt {a d:Nat} (ha:a<2^(m+1)) (hd:d<2^(m+1)): ∀(s r:List Nat),(∀x,x∈s->x<2^(m+1))->(∀x,x∈r->x<2^(m+1))-> ∀x,x∈lin m q a d s r->x<2^(m+1)
 | [],_,_,_,_,h=>by simp [lin] at h
 |_::_, [],_,_,_,h=>by simp [lin] at h
 |x::s,y::r,hs,hr,z,h=>by
  have hx:=hs x (List.mem_cons_self ..);have hy:=hr y (List.mem_cons_self ..);rcases List.mem_cons.1 h with rfl|h
  ·rw [fmu_gm F ha hx,fmu_gm F hd hy];exact Nat.xor_lt_two_pow (F.lt ha) (F.lt hd)
  ·exact lin_lt ha hd s r (fun x hx=>hs x (List.mem_cons_of_mem _ hx)) (fun x hx=>hr x (List.mem_cons_of_mem _ hx)) z h
theorem lin_gt {a d:Nat} (ha:a<2^(m+1)) (hd:d<2^(m+1)): ∀(s r:List Nat) (c:Nat),s.length=r.length->(∀x,x∈s->x<2^(m+1))->(∀x,x∈r->x<2^(m+1))->gtc (lin m q a d s r) c=gm m q a (gtc s c)^^^gm m q d (gtc r c)
 | [], [],c,_,_,_=>by
  show 0=gm m q a 0^^^gm m q d 0;rw [Gf.caz,Gf.caz];rfl
 | [],_::_,_,h,_,_=>by simp at h
 |_::_, [],_,h,_,_=>by simp at h
 |x::s,y::r,0,_,hs,hr=>by
  show fmu m q a x^^^fmu m q d y=gm m q a x^^^gm m q d y;rw [fmu_gm F ha (hs x (List.mem_cons_self ..)),fmu_gm F hd (hr y (List.mem_cons_self ..))]
 |x::s,y::r,c+1,h,hs,hr=>lin_gt ha hd s r c (by simpa using h) (fun x hx=>hs x (List.mem_cons_of_mem _ hx)) (fun x hx=>hr x (List.mem_cons_of_mem _ hx))
theorem evK_lin {a d:Nat} (ha:a<2^(m+1)) (hd:d<2^(m+1)): ∀(s r v:List Nat),s.length=r.length->(∀x,x∈s->x<2^(m+1))->(∀x,x∈r->x<2^(m+1))->evK m q (lin m q a d s r) v=gm m q a (evK m q s v)^^^gm m q d (evK m q r v)
 | [], [],v,_,_,_=>by
  show 0=gm m q a 0^^^gm m q d 0;rw [Gf.caz,Gf.caz];rfl
 | [],_::_,_,h,_,_=>by simp at h
 |_::_, [],_,h,_,_=>by simp at h
 |x::s,y::r, [],_,_,_=>by
  show 0=gm m q a 0^^^gm m q d 0;rw [Gf.caz,Gf.caz];rfl
 |x::s,y::r,z::v,h,hs,hr=>by
  have ih:=evK_lin ha hd s r v (by simpa using h) (fun x hx=>hs x (List.mem_cons_of_mem _ hx)) (fun x hx=>hr x (List.mem_cons_of_mem _ hx));have hx:=hs x (List.mem_cons_self ..);have hy:=hr y (List.mem_cons_self ..);show gm m q (fmu m q a x^^^fmu m q d y) z^^^evK m q (lin m q a d s r) v=gm m q a (gm m q x z^^^evK m q s v)^^^gm m q d (gm m q y z^^^evK m q r v);rw [ih,fmu_gm F ha hx,fmu_gm F hd hy,F.dlz (F.lt ha) (F.lt hd),F.assoc ha hx,F.assoc hd hy,Gf.c7z,Gf.c7z];rw [Nat.xor_assoc,Nat.xor_assoc, <-Nat.xor_assoc (gm m q d (gm m q y z)), <-Nat.xor_assoc (gm m q a (evK m q s v)),Nat.xor_comm (gm m q d (gm m q y z))]
theorem chk_inj: ∀(f n:Nat) (rows:List (List Nat)),chk m q f n rows=true->(∀r,r∈rows->r.length=n/\ ∀x,x∈r->x<2^(m+1))-> ∀S:List (List Nat),S.Sublist rows->S.length=n->InjK m q n S
 |0,n,rows,h,_,S,_,_=>by
  have:n=0:=by simpa [chk] using h
  subst this;intro v hv _ _ x hx;have:v= [] :=List.length_eq_zero_iff.1 hv;subst this;simp at hx
 |f+1,0,rows,_,_,S,_,_=>by
  intro v hv _ _ x hx;have:v= [] :=List.length_eq_zero_iff.1 hv;subst this;simp at hx
 |f+1,n+1, [],_,_,S,hS,hl=>by
  have:S= [] :=List.sublist_nil.1 hS;subst this;simp at hl
 |f+1,n+1,r::rs,h,hr,S,hS,hl=>by
  unfold chk at h;by_cases hlen:rs.length<n
  ·have:=hS.length_le;simp at this;omega
  rw [Yb hlen,Bool.and_eq_true,Bool.and_eq_true] at h;obtain ⟨h1,h2,h3⟩:=h;have hrs: ∀r,r∈rs->r.length=n+1/\ ∀x,x∈r->x<2^(m+1):=fun r h=>hr r (List.mem_cons_of_mem _ h)
  have b0:=hr r (List.mem_cons_self ..);rcases List.sublist_cons_iff.1 hS with hS|⟨S',rfl,hS'⟩
  ·exact chk_inj f (n+1) rs h1 hrs S hS hl
  ·have ha:gtc r (pv r)≠0:=by simpa using h2
   generalize pv r=c at ha h3;have a0:=b0.2 _ (gt_mem r c ha)
   have hc:c<n+1:=by
    rcases Nat.lt_or_ge c (n+1) with h|h
    ·exact h
    ·exact Yf (gt_ge r c (by omega)) ha
   generalize hga:gtc r c=a at ha h3 a0
   have hgt: ∀s:List Nat,(∀x,x∈s->x<2^(m+1))->gtc s c<2^(m+1):=by
    intro s hs;by_cases h0:gtc s c=0
    ·rw [h0];exact Nat.pow_pos (by omega)
    ·exact hs _ (gt_mem s c h0)
   have hel: ∀s,s.length=n+1->(∀x,x∈s->x<2^(m+1))->(elmk m q c a r s).length=n/\(∀x,x∈elmk m q c a r s->x<2^(m+1)):=by
    intro s i0 d0;unfold elmk;split
    ·exact ⟨by have:=ers_len c s (by omega);omega,fun x hx=>d0 x (ers_mem c s x hx)⟩
    ·have hll:=lin_len m q a (gtc s c) s r (by omega);exact ⟨by have:=ers_len c (lin m q a (gtc s c) s r) (by omega);omega,fun x hx=>lin_lt F a0 (hgt s d0) s r d0 b0.2 x (ers_mem c _ x hx)⟩
   have ih:=chk_inj f n (rs.map (elmk m q c a r)) h3 (fun t ht=>by
    obtain ⟨s,hs,rfl⟩:=List.mem_map.1 ht
    exact hel s (hrs s hs).1 (hrs s hs).2) (S'.map (elmk m q c a r)) (hS'.map _) (by simpa using hl)
   intro v hv f0 hz;have e0:=hz r (List.mem_cons_self ..)
   have hall:=ih (ers c v) (by have:=ers_len c v (by omega);omega) (fun x hx=>f0 x (ers_mem c v x hx)) (by
    intro t ht;obtain ⟨s,hs,rfl⟩:=List.mem_map.1 ht;have hzs:=hz s (List.mem_cons_of_mem _ hs);have c0:=hrs s (hS'.subset hs);unfold elmk;by_cases hd:gtc s c=0
    ·rw [Ya hd];have:=evK_ers m q c s v;rw [hzs,hd,Gf.dmz,Nat.zero_xor] at this;exact this.symm
    ·rw [Yb hd];have hdl:=hgt s c0.2;have h5:=evK_lin F a0 hdl s r v (by omega) c0.2 b0.2;rw [hzs,e0,Gf.caz,Gf.caz] at h5;have h6:=evK_ers m q c (lin m q a (gtc s c) s r) v;rw [h5,lin_gt F a0 hdl s r c (by omega) c0.2 b0.2,hga,F.comm a0 hdl,Nat.xor_self,Nat.xor_self,Gf.dmz] at h6
     simpa using h6.symm)
   have h7:=evK_alone m q r v c hall;rw [e0,hga] at h7;have g0:gtc v c<2^(m+1):=hgt v f0;exact ers_all c v hall (gm_nz F a0 g0 ha h7.symm)
end
end Go.Proofs.Xc
end
section
namespace Go.Proofs.Xc
open Go.RowKit Go.Proofs.Pw Go.Proofs.Pl Go.Proofs.Pm Tryz
attribute [local go_sem] a7z a8z bgz bhz aVz aWz a9z baz
def cHz.l0:Nat->List Int->List Int->Int->Int->Option (Bool)
 |0,_,_,_,_=>none
 |k+1,x0,x1,x12,x13=>if x13<x12 then (if 0<=x13 then (if x13<(x0.length:Int) then (if x13<(x1.length:Int) then (if (rd x0 x13)=(rd x1 x13) then (cHz.l0 k x0 x1 x12 (wrap64 (x13+1))) else (some false)) else (none)) else (none)) else (none)) else (some true)
def cHz.f (k:Nat) (l0:List Int) (l1:List Int):Option (Bool):=if (l0.length:Int)=(l1.length:Int) then (cHz.l0 k l0 l1 (l0.length:Int) 0) else (some false)
def eqRows (k:Nat):List (List Int)->List (List Int)->Option Bool
 | [], [] =>some true
 |x::xs,y::ys=>(cHz.f k x y).bind fun b=>if b=true then eqRows k xs ys else some false
 |_,_=>some false
def eqFunc (k:Nat) (p q:List (List Int)):Option Bool:=if p.length=q.length then (if p.length<=1000000 then eqRows k p q else none) else some false
def codec_Verify.f (k:Nat) (a0_0 a0_1 a0_2:Int) (l1:List (List Int)):Option Bool:=
 (avz.f a0_0 a0_1 a0_2).bind fun b=>if b=true then (if (l1.length:Int)=a0_1+a0_2 then ((ayz.f k a0_0 a0_1 a0_2 (l1.take a0_1.toNat)).bind fun t=>if t.2=0 then eqFunc k t.1 (l1.drop a0_1.toNat) else some false) else some false) else some false
theorem u8_xor (a b:Nat) (ha:a<256) (hb:b<256):Go.bits .xor .u8 (a:Int) (b:Int)=((a^^^b:Nat):Int):=by
 have h:a^^^b<2^8:=Nat.xor_lt_two_pow ha hb;have e: ∀x:Nat,x<256->(BitVec.ofInt 8 (x:Int)).toNat=x:=fun x hx=>by rw [BitVec.toNat_ofInt];omega
 show IntKind.u8.wrap ((BitVec.ofInt 8 (a:Int)^^^BitVec.ofInt 8 (b:Int)).toNat:Int)=_;rw [BitVec.toNat_xor,e a ha,e b hb];show ((a^^^b:Nat):Int) % 256=_;omega
def isB (l:List Int):Prop:= ∀x,x∈l->0<=x/\x<=255
theorem isB_of (l:List Int) (h:isB l): ∃n:List Nat,l=n.map (fun x:Nat=>(x:Int))/\ ∀x,x∈n->x<256:=by
 refine ⟨l.map Int.toNat,?_,fun x hx=> ?_⟩
 ·rw [List.map_map]
  conv=>lhs;rw [<-List.map_id l]
  exact List.map_congr_left (fun x hx=>by have:=h x hx;simp;omega)
 ·obtain ⟨y,hy,rfl⟩:=List.mem_map.1 hx;have:=h y hy;omega
def xorN (a b:List Nat):List Nat:=List.zipWith (fun x y=>x^^^y) a b
theorem xorB_nat: ∀(a b:List Nat),(∀x,x∈a->x<256)->(∀x,x∈b->x<256)->xorB (a.map fun x:Nat=>(x:Int)) (b.map fun x:Nat=>(x:Int))=(xorN a b).map fun x:Nat=>(x:Int)
 | [],_,_,_=>by simp [xorB,xorN]
 |_::_, [],_,_=>by simp [xorB,xorN]
 |x::a,y::b,ha,hb=>by
  have h:=xorB_nat a b (fun q hq=>ha q (List.mem_cons_of_mem _ hq)) (fun q hq=>hb q (List.mem_cons_of_mem _ hq))
  unfold xorB xorN at *
  simp only [List.map_cons,List.zipWith_cons_cons];rw [h,u8_xor x y (ha x (List.mem_cons_self ..)) (hb y (List.mem_cons_self ..))]
theorem xorN_lt {w:Nat} : ∀(a b:List Nat),(∀x,x∈a->x<2^w)->(∀x,x∈b->x<2^w)-> ∀x,x∈xorN a b->x<2^w:=by
 intro a b ha hb x hx;unfold xorN at hx;obtain ⟨i,hi,rfl⟩:=List.mem_iff_getElem.1 hx;rw [List.getElem_zipWith];exact Nat.xor_lt_two_pow (ha _ (List.getElem_mem ..)) (hb _ (List.getElem_mem ..))
def pairN:List Nat->List Nat
 |x::y::r=>(x+256*y)::pairN r
 |_=> []
theorem pair_xor (x y u v:Nat) (hx:x<256) (hu:u<256):(x+256*y)^^^(u+256*v)=(x^^^u)+256*(y^^^v):=by
 have hxu:x^^^u<2^8:=Nat.xor_lt_two_pow hx hu;apply Nat.eq_of_testBit_eq
 intro i;have e: ∀a b:Nat,b+256*a=2^8*a+b:=fun a b=>by omega
 rw [e,e,e,Nat.testBit_xor,Nat.testBit_two_pow_mul_add _ hx,Nat.testBit_two_pow_mul_add _ hu,Nat.testBit_two_pow_mul_add _ hxu];split<;>rw [Nat.testBit_xor]
theorem pairN_xor: ∀(a b:List Nat),a.length=b.length->(∀x,x∈a->x<256)->(∀x,x∈b->x<256)->pairN (xorN a b)=xorN (pairN a) (pairN b)
 | [], [],_,_,_=>rfl
 | [_], [_],_,_,_=>rfl
 |x::y::a,u::v::b,hl,ha,hb=>by
  have h:=pairN_xor a b (by simpa using hl) (fun q hq=>ha q (by simp [hq])) (fun q hq=>hb q (by simp [hq]));show ((x^^^u)+256*(y^^^v))::pairN (xorN a b)=((x+256*y)^^^(u+256*v))::xorN (pairN a) (pairN b);rw [h,pair_xor x y u v (ha x (by simp)) (hb u (by simp))]
 | [],_::_,hl,_,_=>by simp at hl
 |_::_, [],hl,_,_=>by simp at hl
 | [_],_::_::_,hl,_,_=>by simp at hl
 |_::_::_, [_],hl,_,_=>by simp at hl
theorem pairN_lt: ∀(a:List Nat),(∀x,x∈a->x<256)-> ∀x,x∈pairN a->x<65536
 | [],_,_,h=>by simp [pairN] at h
 | [_],_,_,h=>by simp [pairN] at h
 |u::v::a,ha,x,h=>by
  have h1:=ha u (by simp);have h2:=ha v (by simp);rcases List.mem_cons.1 (show x∈(u+256*v)::pairN a from h) with rfl|h
  ·omega
  ·exact pairN_lt a (fun q hq=>ha q (by simp [hq])) x h
def castN (l:List Nat):List Int:=l.map fun x:Nat=>(x:Int)
theorem fiz (x y:Nat): ∀(l:List Nat),l.length % 2=0->pairN (l++ [x,y])=pairN l++ [x+256*y]
 | [],_=>rfl
 | [_],h=>by simp at h
 |u::v::l,h=>by
  have ih:=fiz x y l (by simp at h;omega);show (u+256*v)::pairN (l++ [x,y])=(u+256*v)::pairN l++ [x+256*y];rw [ih];rfl
theorem ekz: ∀(l:List Nat),(pairN l).length=l.length / 2
 | [] =>rfl
 | [_] =>by simp [pairN]
 |u::v::l=>by
  have ih:=ekz l;show (pairN l).length+1=(l.length+2) / 2;omega
theorem wTo_two (n:List Nat) (hb: ∀x,x∈n->x<256): ∀j,2*j<=n.length->wTo 2 (castN n) (2*j)=castN (pairN (n.take (2*j)))++List.replicate (n.length / 2 - j) 0
 |0,_=>by
  show wTo 2 (castN n) 0=_;unfold wTo castN;simp [pairN]
 |j+1,hj=>by
  have ih:=wTo_two n hb j (by omega);obtain ⟨x,hx⟩: ∃x,n[2*j]?=some x:=⟨_,Zf (by omega)⟩;obtain ⟨y,hy⟩: ∃y,n[2*j+1]?=some y:=⟨_,Zf (by omega)⟩;have a0:=hb x (Zo hx);have b0:=hb y (Zo hy);have gx:(castN n).getD (2*j) 0=(x:Int):=by unfold castN;rw [Zm,List.getElem?_map,hx];rfl
  have gy:(castN n).getD (2*j+1) 0=(y:Int):=by unfold castN;rw [Zm,List.getElem?_map,hy];rfl
  have hpl:(castN (pairN (n.take (2*j)))).length=j:=by
   unfold castN;rw [List.length_map,ekz,List.length_take];omega
  have e1:wTo 2 (castN n) (2*j+1)=castN (pairN (n.take (2*j)))++(x:Int)::List.replicate (n.length / 2 - (j+1)) 0:=by
   have e:wTo 2 (castN n) (2*j+1)=if (2*j) % 2=0 then (wTo 2 (castN n) (2*j)).set ((2*j) / 2) (wrap64 ((castN n).getD (2*j) 0)) else (wTo 2 (castN n) (2*j)).set ((2*j) / 2) (wrap64 ((wTo 2 (castN n) (2*j)).getD ((2*j) / 2) 0+wrap64 (256*wrap64 ((castN n).getD (2*j) 0)))):=rfl
   rw [e,Ya (by omega),ih,gx,show 2*j / 2=j by omega,w64 (by omega) (by omega),List.set_append_right _ _ (by omega),hpl,Nat.sub_self,show n.length / 2 - j=(n.length / 2 - (j+1))+1 by omega,List.replicate_succ,Zh]
  have e2:wTo 2 (castN n) (2*j+1+1)=if (2*j+1) % 2=0 then (wTo 2 (castN n) (2*j+1)).set ((2*j+1) / 2) (wrap64 ((castN n).getD (2*j+1) 0)) else (wTo 2 (castN n) (2*j+1)).set ((2*j+1) / 2) (wrap64 ((wTo 2 (castN n) (2*j+1)).getD ((2*j+1) / 2) 0+wrap64 (256*wrap64 ((castN n).getD (2*j+1) 0)))):=rfl
  have hgd:(castN (pairN (n.take (2*j)))++(x:Int)::List.replicate (n.length / 2 - (j+1)) 0).getD j 0=(x:Int):=by
   rw [Zm,List.getElem?_append_right (by omega),hpl,Nat.sub_self];rfl
  rw [show 2*(j+1)=2*j+1+1 by omega,e2,Yb (by omega),e1,gy,show (2*j+1) / 2=j by omega,hgd,w64 (x:=(y:Int)) (by omega) (by omega),w64 (x:=256*(y:Int)) (by omega) (by omega),w64 (x:=(x:Int)+256*(y:Int)) (by omega) (by omega),List.set_append_right _ _ (by omega),hpl,Nat.sub_self,Zh]
  have e3:n.take (2*j+1+1)=n.take (2*j)++ [x,y] :=by
   rw [List.take_add_one,List.take_add_one,hx,hy];simp
  rw [e3,fiz x y _ (by rw [List.length_take];omega)];unfold castN;simp
theorem words16 (n:List Nat) (hb: ∀x,x∈n->x<256) (he:n.length % 2=0):wordsF 16 (castN n)=castN (pairN n):=by
 unfold wordsF;have h:=wTo_two n hb (n.length / 2) (by omega);rw [show wN 16=2 from rfl,show (castN n).length=2*(n.length / 2) by unfold castN;rw [List.length_map];omega,h,Nat.sub_self,List.take_of_length_le (by omega)];simp
theorem wTo_one (b:List Int) (hb: ∀x,x∈b->0<=x/\x<=255): ∀i,i<=b.length->wTo 1 b i=b.take i++List.replicate (b.length - i) 0
 |0,_=>by unfold wTo;simp
 |i+1,hi=>by
  have ih:=wTo_one b hb i (by omega);obtain ⟨x,hx⟩: ∃x,b[i]?=some x:=⟨_,Zf (by omega)⟩;have hxb:=hb x (Zo hx);have hg:b.getD i 0=x:=by rw [Zm,hx];rfl
  have e:wTo 1 b (i+1)=if i % 1=0 then (wTo 1 b i).set (i / 1) (wrap64 (b.getD i 0)) else (wTo 1 b i).set (i / 1) (wrap64 ((wTo 1 b i).getD (i / 1) 0+wrap64 (256*wrap64 (b.getD i 0)))):=rfl
  rw [e,Ya (Nat.mod_one i),ih,hg,Nat.div_one,w64 (by omega) (by omega),List.set_append_right _ _ (by simp;omega),List.take_add_one,hx];rw [show i - (b.take i).length=0 by simp;omega,show b.length - i=(b.length - (i+1))+1 by omega,List.replicate_succ];simp
def mapN (f:Nat->Nat) (l:List Nat):List Nat:=l.map f
def mN (wb c:Int) (x:Nat):Nat:=(gmul wb c (x:Int)).toNat
theorem mN_cast {wb:Int} (hw:wb=8\/wb=16) (c:Int) (l:List Nat):(castN l).map (gmul wb c)=castN (mapN (mN wb c) l):=by
 unfold castN mapN;rw [List.map_map,List.map_map];refine List.map_congr_left (fun x _=> ?_);have:=(bIz hw c (x:Int)).1;show gmul wb c (x:Int)=((gmul wb c (x:Int)).toNat:Int);omega
theorem fsize8:fsize 8=256:=rfl
theorem fsize16:fsize 16=65536:=rfl
theorem mN_lt8 (c:Int) (x:Nat):mN 8 c x<256:=by
 have:=bIz (.inl rfl:(8:Int)=8\/(8:Int)=16) c (x:Int);rw [fsize8] at this;unfold mN;omega
theorem mN_lt16 (c:Int) (x:Nat):mN 16 c x<65536:=by
 have:=bIz (.inr rfl:(16:Int)=8\/(16:Int)=16) c (x:Int);rw [fsize16] at this;unfold mN;omega
def flatN:List Nat->List Nat
 | [] => []
 |x::r=>(x % 256)::(x / 256 % 256)::flatN r
theorem bytes16: ∀(l:List Nat),bytesF 16 (castN l)=castN (flatN l)
 | [] =>rfl
 |x::r=>by
  have h3:bytesF 16 ((x:Int)::castN r)=byteF 16 (x:Int)++bytesF 16 (castN r):=by unfold bytesF;rw [List.flatMap_cons]
  show bytesF 16 ((x:Int)::castN r)=((x % 256:Nat):Int)::((x / 256 % 256:Nat):Int)::castN (flatN r);rw [h3,bytes16 r];show [(x:Int) % 256,(x:Int) / 256 % 256] ++_=_;simp
theorem bytes8: ∀(l:List Nat),(∀x,x∈l->x<256)->bytesF 8 (castN l)=castN l
 | [],_=>rfl
 |x::r,h=>by
  have h3:bytesF 8 ((x:Int)::castN r)=byteF 8 (x:Int)++bytesF 8 (castN r):=by unfold bytesF;rw [List.flatMap_cons]
  have hx:=h x (List.mem_cons_self ..);show bytesF 8 ((x:Int)::castN r)=(x:Int)::castN r;rw [h3,bytes8 r (fun q hq=>h q (List.mem_cons_of_mem _ hq))];show [(x:Int) % 256] ++_=_;rw [show (x:Int) % 256=(x:Int) by omega];rfl
theorem flatN_lt: ∀(a:List Nat) (x:Nat),x∈flatN a->x<256
 | [],_,h=>by simp [flatN] at h
 |u::a,x,h=>by
  rcases List.mem_cons.1 (show x∈(u % 256)::(u / 256 % 256)::flatN a from h) with rfl|h
  ·omega
  ·rcases List.mem_cons.1 h with rfl|h
   ·omega
   ·exact flatN_lt a x h
def mulN (wb c:Int) (n:List Nat):List Nat:=if wb=8 then mapN (mN 8 c) n else flatN (mapN (mN 16 c) (pairN n))
theorem mapN_lt8 (c:Int) (n:List Nat): ∀x,x∈mapN (mN 8 c) n->x<256:=by
 intro x hx;obtain ⟨y, -,rfl⟩:=List.mem_map.1 hx;exact mN_lt8 c y
theorem eaz (wb c:Int) (n:List Nat): ∀x,x∈mulN wb c n->x<256:=by
 unfold mulN;split
 ·exact mapN_lt8 c n
 ·exact flatN_lt _
theorem words8 (n:List Nat) (hb: ∀x,x∈n->x<256):wordsF 8 (castN n)=castN n:=by
 unfold wordsF
 rw [show wN 8=1 from rfl,wTo_one (castN n) (fun x hx=>by
  obtain ⟨y,hy,rfl⟩:=List.mem_map.1 hx;have:=hb y hy
  omega) _ (Zv _),Nat.sub_self,List.take_length]
 simp
theorem mulB_nat {wb:Int} (hw:wb=8\/wb=16) (c:Int) (n:List Nat) (hb: ∀x,x∈n->x<256) (he:n.length % wN wb=0):mulB wb c (castN n)=castN (mulN wb c n):=by
 unfold mulB mulN;rcases hw with rfl|rfl
 ·rw [words8 n hb,mN_cast (.inl rfl),bytes8 _ (mapN_lt8 c n),Ya rfl]
 ·rw [words16 n hb he,mN_cast (.inr rfl),bytes16,Yb (by decide)]
theorem foldB_nat: ∀(A:List (List Nat)) (a:List Nat),(∀x,x∈a->x<256)->(∀r,r∈A-> ∀x,x∈r->x<256)->(A.map castN).foldl xorB (castN a)=castN (A.foldl xorN a)
 | [],_,_,_=>rfl
 |r::A,a,ha,hA=>by
  have hr:=hA r (List.mem_cons_self ..);have ih:=foldB_nat A (xorN a r) (xorN_lt (w:=8) a r ha hr) (fun q hq=>hA q (List.mem_cons_of_mem _ hq));show (A.map castN).foldl xorB (xorB (castN a) (castN r))=_;rw [show xorB (castN a) (castN r)=castN (xorN a r) from xorB_nat a r ha hr,ih];rfl
def dotN (S:Nat) (wb:Int) (c:List Int) (P:List (List Nat)):List Nat:=(List.zipWith (mulN wb) c P).foldl xorN (List.replicate S 0)
theorem zipM_nat {wb:Int} (hw:wb=8\/wb=16): ∀(c:List Int) (P:List (List Nat)),(∀r,r∈P->(∀x,x∈r->x<256)/\r.length % wN wb=0)->List.zipWith (mulB wb) c (P.map castN)=(List.zipWith (mulN wb) c P).map castN
 | [],_,_=>by simp
 |_::_, [],_=>by simp
 |x::c,r::P,h=>by
  have hr:=h r (List.mem_cons_self ..);simp only [List.map_cons,List.zipWith_cons_cons];rw [mulB_nat hw x r hr.1 hr.2,zipM_nat hw c P (fun q hq=>h q (List.mem_cons_of_mem _ hq))]
theorem eFz {wb:Int} (hw:wb=8\/wb=16) (S:Nat) (c:List Int) (P:List (List Nat)) (h: ∀r,r∈P->(∀x,x∈r->x<256)/\r.length % wN wb=0):dotV S wb c (P.map castN)=castN (dotN S wb c P):=by
 unfold dotV sumB dotN;rw [zipM_nat hw c P h,show (List.replicate S (0:Int))=castN (List.replicate S 0) by unfold castN;simp];refine foldB_nat _ _ (fun x hx=>by rw [List.eq_of_mem_replicate hx];omega) (fun r hr x hx=> ?_);obtain ⟨i,hi,rfl⟩:=List.mem_iff_getElem.1 hr;rw [List.getElem_zipWith] at hx;exact eaz _ _ _ x hx
theorem mN_in8 {c:Int} (h0:0<=c) (h1:c<256) (x:Nat) (hx:x<256):mN 8 c x=gm 7 285 c.toNat x:=by
 unfold mN;rw [gmul_in h0 (by rw [fsize8];exact h1) (by omega) (by rw [fsize8];omega)];simp [gmN]
theorem mN_in16 {c:Int} (h0:0<=c) (h1:c<65536) (x:Nat) (hx:x<65536):mN 16 c x=gm 15 69643 c.toNat x:=by
 unfold mN;rw [gmul_in h0 (by rw [fsize16];exact h1) (by omega) (by rw [fsize16];omega)];simp [gmN]
theorem pair_flat: ∀(l:List Nat),(∀x,x∈l->x<65536)->pairN (flatN l)=l
 | [],_=>rfl
 |x::l,hb=>by
  have ih:=pair_flat l (fun z hz=>hb z (List.mem_cons_of_mem _ hz));have hx:=hb x (List.mem_cons_self ..);simp only [flatN,pairN];rw [ih];congr 1
  omega
theorem flat_pair: ∀(l:List Nat),l.length % 2=0->(∀x,x∈l->x<256)->flatN (pairN l)=l
 | [],_,_=>rfl
 | [x],h,_=>by simp at h
 |x::y::l,h,hb=>by
  have ih:=flat_pair l (by simp at h;omega) (fun z hz=>hb z (List.mem_cons_of_mem _ (List.mem_cons_of_mem _ hz)));have hx:=hb x (List.mem_cons_self ..);have hy:=hb y (List.mem_cons_of_mem _ (List.mem_cons_self ..));simp only [pairN,flatN];rw [ih,show (x+256*y) % 256=x by omega,show (x+256*y) / 256 % 256=y by omega]
theorem xorN_len2 {S:Nat} {a b:List Nat} (ha:a.length=S) (hb:b.length=S):(xorN a b).length=S:=by simp [xorN,ha,hb]
theorem fjz {wb:Int} (hw:wb=8\/wb=16) (c:Int) (n:List Nat) (hb: ∀x,x∈n->x<256) (he:n.length % wN wb=0):(mulN wb c n).length=n.length:=by
 have h:=mulB_len wb c (castN n) (by simpa [castN] using he);rw [mulB_nat hw c n hb he] at h
 simpa [castN] using h
theorem castN_inj: ∀(a b:List Nat),castN a=castN b->a=b
 | [], [],_=>rfl
 | [],_::_,h=>by simp [castN] at h
 |_::_, [],h=>by simp [castN] at h
 |x::a,y::b,h=>by
  have h:(x:Int)::castN a=(y:Int)::castN b:=h;injection h with h1 h2
  rw [castN_inj a b h2,show x=y by omega]
def nOf (r:List Int):List Nat:=r.map Int.toNat
theorem eUz: ∀(r:List Int),(∀x,x∈r->0<=x/\x<=255)->castN (nOf r)=r
 | [],_=>rfl
 |x::r,h=>by
  have hx:=h x (List.mem_cons_self ..);have ih:=eUz r (fun y hy=>h y (List.mem_cons_of_mem _ hy));show ((x.toNat:Nat):Int)::castN (nOf r)=x::r;rw [ih,Int.toNat_of_nonneg hx.1]
theorem nOf_lt (r:List Int) (h: ∀x,x∈r->0<=x/\x<=255): ∀x,x∈nOf r->x<256:=by
 intro x hx;obtain ⟨y,hy,rfl⟩:=List.mem_map.1 hx;have:=h y hy;omega
theorem nOf_len (r:List Int):(nOf r).length=r.length:=by simp [nOf]
def isBL (l:List (List Int)) (S:Nat):Prop:= ∀r,r∈l->r.length=S/\ ∀x,x∈r->0<=x/\x<=255
theorem fkz {l:List (List Int)} {S:Nat} (h:isBL l S):(l.map nOf).map castN=l/\ ∀r,r∈l.map nOf->r.length=S/\ ∀x,x∈r->x<256:=by
 constructor
 ·rw [List.map_map]
  conv=>rhs;rw [<-List.map_id l]
  exact List.map_congr_left (fun r hr=>eUz r (h r hr).2)
 ·intro r hr;obtain ⟨q,hq,rfl⟩:=List.mem_map.1 hr;exact ⟨by rw [nOf_len];exact (h q hq).1,nOf_lt q (h q hq).2⟩
theorem foldN_lt: ∀(A:List (List Nat)) (a:List Nat),(∀x,x∈a->x<256)->(∀r,r∈A-> ∀x,x∈r->x<256)-> ∀x,x∈A.foldl xorN a->x<256
 | [],_,h,_=>h
 |r::rs,a,h,hr=>foldN_lt rs (xorN a r) (xorN_lt (w:=8) a r h (hr r (List.mem_cons_self ..))) (fun q hq=>hr q (List.mem_cons_of_mem _ hq))
theorem dotN_lt (S:Nat) (wb:Int) (c:List Int) (P:List (List Nat)): ∀x,x∈dotN S wb c P->x<256:=by
 unfold dotN;refine foldN_lt _ _ (fun x hx=> ?_) (fun r hr=> ?_)
 ·have:=List.eq_of_mem_replicate hx;omega
 ·obtain ⟨i,hi,rfl⟩:=List.mem_iff_getElem.1 hr;rw [List.getElem_zipWith];exact eaz _ _ _
theorem eVz (p:Int):pbits p=8\/pbits p=16:=by unfold pbits;split<;>simp
theorem parV_bytes (p:Int) (K M S:Nat) (data:List (List Int)) (hS:S % wN (pbits p)=0) (h:isBL data S):isBL (parV S p K M data) S:=by
 obtain ⟨e,hb⟩:=fkz h;intro r hr;unfold parV at hr;obtain ⟨c, -,rfl⟩:=List.mem_map.1 hr;refine ⟨dotV_len hS (fun r hr=>(h r hr).1),?_⟩;rw [<-e,eFz (eVz p) S c _ (fun r hr=>⟨(hb r hr).2,by rw [(hb r hr).1];exact hS⟩)];intro x hx;obtain ⟨y,hy,rfl⟩:=List.mem_map.1 hx;have:=dotN_lt _ _ _ _ y hy;omega
def parL1:List (List (List (List Nat))):= [[[[1]],[[1],[1]],[[1],[1],[1]],[[1],[1],[1],[1]]],[[[1,1]],[[1,1],[1,143]],[[1,1],[1,70],[1,143]],[[1,1],[1,70],[1,245],[1,143]]],[[[1,1,1]],[[1,1,1],[1,245,244]],[[1,1,1],[1,196,83],[1,245,244]],[[1,1,1],[1,196,83],[1,143,211],[1,245,244]]],[[[1,1,1,1]],[[1,1,1,1],[1,70,143,200]],[[1,1,1,1],[1,217,92,172],[1,70,143,200]],[[1,1,1,1],[1,217,92,172],[1,92,70,123],[1,70,143,200]]],[[[1,1,1,1,1]],[[1,1,1,1,1],[1,166,82,245,167]],[[1,1,1,1,1],[1,156,123,166,244],[1,166,82,245,167]],[[1,1,1,1,1],[1,156,123,166,244],[1,151,212,123,197],[1,166,82,245,167]]],[[[1,1,1,1,1,1]],[[1,1,1,1,1,1],[1,123,245,143,244,142]],[[1,1,1,1,1,1],[1,225,151,172,82,200],[1,123,245,143,244,142]],[[1,1,1,1,1,1],[1,225,151,172,82,200],[1,166,196,238,83,146],[1,123,245,143,244,142]]],[[[1,1,1,1,1,1,1]],[[1,1,1,1,1,1,1],[1,187,104,210,211,105,186]],[[1,1,1,1,1,1,1],[1,199,210,240,105,121,248],[1,187,104,210,211,105,186]],[[1,1,1,1,1,1,1],[1,199,210,240,105,121,248],[1,70,91,245,56,142,167],[1,187,104,210,211,105,186]]],[[[1,1,1,1,1,1,1,1]],[[1,1,1,1,1,1,1,1],[1,172,70,235,143,34,200,101]],[[1,1,1,1,1,1,1,1],[1,55,39,73,84,181,225,217],[1,172,70,235,143,34,200,101]],[[1,1,1,1,1,1,1,1],[1,55,39,73,84,181,225,217],[1,39,217,161,92,60,172,90],[1,172,70,235,143,34,200,101]]]]
def rowsL1 (k m:Nat):List (List Nat):=(identM (k+1)).map nOf++(parL1.getD k []).getD m []
theorem parJ1: ∀k,k<8-> ∀m,m<4->chk 7 285 13 (k+1) (rowsL1 k m)=true:=by decide+kernel
theorem e1_0_0:(genM 1 1 1).map nOf=rowsL1 0 0:=by decide+kernel
theorem e1_0_1:(genM 1 1 2).map nOf=rowsL1 0 1:=by decide+kernel
theorem e1_0_2:(genM 1 1 3).map nOf=rowsL1 0 2:=by decide+kernel
theorem e1_0_3:(genM 1 1 4).map nOf=rowsL1 0 3:=by decide+kernel
theorem e1_1_0:(genM 1 2 1).map nOf=rowsL1 1 0:=by decide+kernel
theorem e1_1_1:(genM 1 2 2).map nOf=rowsL1 1 1:=by decide+kernel
theorem e1_1_2:(genM 1 2 3).map nOf=rowsL1 1 2:=by decide+kernel
theorem e1_1_3:(genM 1 2 4).map nOf=rowsL1 1 3:=by decide+kernel
theorem e1_2_0:(genM 1 3 1).map nOf=rowsL1 2 0:=by decide+kernel
theorem e1_2_1:(genM 1 3 2).map nOf=rowsL1 2 1:=by decide+kernel
theorem e1_2_2:(genM 1 3 3).map nOf=rowsL1 2 2:=by decide+kernel
theorem e1_2_3:(genM 1 3 4).map nOf=rowsL1 2 3:=by decide+kernel
theorem e1_3_0:(genM 1 4 1).map nOf=rowsL1 3 0:=by decide+kernel
theorem e1_3_1:(genM 1 4 2).map nOf=rowsL1 3 1:=by decide+kernel
theorem e1_3_2:(genM 1 4 3).map nOf=rowsL1 3 2:=by decide+kernel
theorem e1_3_3:(genM 1 4 4).map nOf=rowsL1 3 3:=by decide+kernel
theorem e1_4_0:(genM 1 5 1).map nOf=rowsL1 4 0:=by decide+kernel
theorem e1_4_1:(genM 1 5 2).map nOf=rowsL1 4 1:=by decide+kernel
theorem e1_4_2:(genM 1 5 3).map nOf=rowsL1 4 2:=by decide+kernel
theorem e1_4_3:(genM 1 5 4).map nOf=rowsL1 4 3:=by decide+kernel
theorem e1_5_0:(genM 1 6 1).map nOf=rowsL1 5 0:=by decide+kernel
theorem e1_5_1:(genM 1 6 2).map nOf=rowsL1 5 1:=by decide+kernel
theorem e1_5_2:(genM 1 6 3).map nOf=rowsL1 5 2:=by decide+kernel
theorem e1_5_3:(genM 1 6 4).map nOf=rowsL1 5 3:=by decide+kernel
theorem e1_6_0:(genM 1 7 1).map nOf=rowsL1 6 0:=by decide+kernel
theorem e1_6_1:(genM 1 7 2).map nOf=rowsL1 6 1:=by decide+kernel
theorem e1_6_2:(genM 1 7 3).map nOf=rowsL1 6 2:=by decide+kernel
theorem e1_6_3:(genM 1 7 4).map nOf=rowsL1 6 3:=by decide+kernel
theorem e1_7_0:(genM 1 8 1).map nOf=rowsL1 7 0:=by decide+kernel
theorem e1_7_1:(genM 1 8 2).map nOf=rowsL1 7 1:=by decide+kernel
theorem e1_7_2:(genM 1 8 3).map nOf=rowsL1 7 2:=by decide+kernel
theorem e1_7_3:(genM 1 8 4).map nOf=rowsL1 7 3:=by decide+kernel
theorem parE1 (k:Nat) (hk:k<8) (m:Nat) (hm:m<4):(genM 1 (k+1) (m+1)).map nOf=rowsL1 k m:=by
 have h1:k=0\/k=1\/k=2\/k=3\/k=4\/k=5\/k=6\/k=7:=by omega
 have h2:m=0\/m=1\/m=2\/m=3:=by omega
 rcases h1 with rfl|rfl|rfl|rfl|rfl|rfl|rfl|rfl<;>rcases h2 with rfl|rfl|rfl|rfl
 ·exact e1_0_0
 ·exact e1_0_1
 ·exact e1_0_2
 ·exact e1_0_3
 ·exact e1_1_0
 ·exact e1_1_1
 ·exact e1_1_2
 ·exact e1_1_3
 ·exact e1_2_0
 ·exact e1_2_1
 ·exact e1_2_2
 ·exact e1_2_3
 ·exact e1_3_0
 ·exact e1_3_1
 ·exact e1_3_2
 ·exact e1_3_3
 ·exact e1_4_0
 ·exact e1_4_1
 ·exact e1_4_2
 ·exact e1_4_3
 ·exact e1_5_0
 ·exact e1_5_1
 ·exact e1_5_2
 ·exact e1_5_3
 ·exact e1_6_0
 ·exact e1_6_1
 ·exact e1_6_2
 ·exact e1_6_3
 ·exact e1_7_0
 ·exact e1_7_1
 ·exact e1_7_2
 ·exact e1_7_3
theorem chk_1 (K M:Nat) (h1:1<=K) (h2:K<=8) (h3:1<=M) (h4:M<=4):chk 7 285 13 K ((genM 1 K M).map nOf)=true:=by
 obtain ⟨k,rfl⟩: ∃k,K=k+1:=⟨K - 1,by omega⟩;obtain ⟨m,rfl⟩: ∃m,M=m+1:=⟨M - 1,by omega⟩;rw [parE1 k (by omega) m (by omega)];exact parJ1 k (by omega) m (by omega)
def flz.f (l0_0:List (List Int)) (a0_1:Int) (a1:Int):Option (Int×Int×Int):=some (a1,a0_1,wrap64 ((l0_0.length:Int) - a0_1))
def fDz.f (k:Nat) (l0_0:List (List Int)) (a0_1:Int) (a1:Int):Option (Bool):=if 0<(l0_0.length:Int) then ((bAz.f k a1 8 1 0).bind fun bt601=>(if ((rd_L1 l0_0 0).length:Int)>0 then (if bt601.1=0 then (none) else (some ((((rd_L1 l0_0 0).length:Int) % bt601.1)==0))) else (some false))) else (none)
def fmz.f (k:Nat) (l0_0:List (List Int)) (a0_1:Int) (a1:Int):Option (Bool):=(flz.f l0_0 a0_1 a1).bind fun bt604=>((avz.f bt604.1 bt604.2.1 bt604.2.2).bind fun t608=>(if t608=true then ((fDz.f k l0_0 a0_1 a1).bind fun t609=>(if t609=true then ((codec_Verify.f k bt604.1 bt604.2.1 bt604.2.2 l0_0).bind fun t610=>(some t610)) else (some false))) else (some false)))
def eez.l0:Nat->List Int->Int->Option (List Int)
 |0,_,_=>none
 |k+1,x1,x3=>if x3<6 then (if x1.length<17592186044416 then (eez.l0 k (x1++ [wrap64 (x3+1)]) (wrap64 (x3+1))) else (none)) else (some x1)
def eez.f (k:Nat)  :Option (List Int):=eez.l0 k ([] :List Int) 0
def efz.l (k:Nat) (l:List (List Int)) (a:Int):List Int->List Int->Option (List Int)
 | [],acc=>some acc
 |p::ps,acc=>(fmz.f k l a p).bind fun b=>efz.l k l a ps (if b=true then acc++ [p] else acc)
def efz.f (k:Nat) (l0:List (List Int)) (a1:Int):Option (List Int):=(eez.f k).bind fun ps=>if ps.length<=1000 then efz.l k l0 a1 ps [] else none
def trial_Pick.f (k:Nat) (l0:List (List Int)) (a1:Int):Option (Int×Int):=(efz.f k l0 a1).bind fun t614=>(if (t614.length:Int)=0 then (some (0,4)) else (if (t614.length:Int)=1 then (if 0<(t614.length:Int) then (some (rd t614 0,0)) else (none)) else (some (0,6))))
end Go.Proofs.Xc
end
