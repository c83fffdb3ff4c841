-- Joined texts of this work (wip/tools/bundle.py).
import Derived.Test.YtpdakdcmahlghaaGreatBCodecParity19
set_option maxRecDepth 100000
set_option linter.unusedVariables false
set_option linter.unusedSimpArgs false
section
namespace Go.Proofs.Xc
open Go.RowKit Go.Proofs.Pw Go.Proofs.Pl Go.Proofs.Pm
attribute [local go_sem] a9z baz bkz blz a2z a3z bbz bcz
def mayQ (q:Int) (K M:Nat):Bool:=aJz.f q (K:Int) (M:Int)==some true
def verB (S:Nat) (q:Int) (K M:Nat) (L:List (List Int)):Bool:=decide (parV S q K M (L.take K)=L.drop K)
def longB (S:Nat) (q:Int):Bool:=decide (0<S)&&decide (S % unitN q=0)
def passB (S:Nat) (q:Int) (K M:Nat) (L:List (List Int)):Bool:=mayQ q K M&&(longB S q&&verB S q K M L)
theorem six {q:Int} (h1:1<=q) (h2:q<=6):q=1\/q=2\/q=3\/q=4\/q=5\/q=6:=by omega
theorem unit_even {q:Int} (h1:1<=q) (h2:q<=6) {S:Nat} (h:S % unitN q=0):S % wN (pbits q)=0:=by
 have one: ∀p:Int,wN (pbits p)=1->S % wN (pbits p)=0:=fun p hp=>by rw [hp];exact Nat.mod_one S
 rcases six h1 h2 with rfl|rfl|rfl|rfl|rfl|rfl
 ·exact one 1 rfl
 ·have e1:wN (pbits 2)=2:=rfl;have e2:S % 8=0:=h;rw [e1];omega
 ·exact one 3 rfl
 ·exact one 4 rfl
 ·exact one 5 rfl
 ·exact one 6 rfl
theorem size_unit {q:Int} (h1:1<=q) (h2:q<=6):sizeN q 8 0=unitN q/\aJz.f q ((8:Nat):Int) ((1:Nat):Int)=some true:=by
 rcases six h1 h2 with rfl|rfl|rfl|rfl|rfl|rfl<;>exact ⟨rfl,rfl⟩
theorem long_ev (S:Nat) (q K:Int) (h1:1<=q) (h2:q<=6) (L:List (List Int)) (h0:0<L.length) (hS:(rd_L1 L 0).length=S):Ev (fun k=>cuz.f k L K q) (longB S q):=by
 obtain ⟨e1,e2⟩:=size_unit h1 h2;have hs:=size_ev q 8 1 0 e2 (by omega);rw [e1] at hs;have hu:=unitN_bd q;refine Ev.congr (f:=fun k=>(a6z.f k q ((8:Nat):Int) ((1:Nat):Int) ((0:Nat):Int)).bind fun bt=>if (S:Int)>0 then (if bt.1=0 then none else some (((S:Int) % bt.1)==0)) else some false) (fun k=> ?_) ?_
 ·unfold cuz.f;rw [if_pos (by omega),hS];rfl
 ·refine Ev.bind hs ?_;refine Ev.congr (f:=fun _=>some (longB S q)) (fun k=> ?_) (Ev.now _);dsimp only;unfold longB;by_cases hz:0<S
  ·rw [if_pos (by omega),if_neg (by omega),decide_eq_true hz,Bool.true_and];congr 1
   have e3:((S:Int) % (unitN q:Int))=((S % unitN q:Nat):Int):=by omega
   rw [e3];generalize S % unitN q=m;by_cases hm:m=0
   ·rw [hm];rfl
   ·rw [decide_eq_false hm];exact beq_eq_false_iff_ne.mpr (by omega)
  ·rw [if_neg (by omega),decide_eq_false hz];rfl
theorem pass_ev (q:Int) (K M S:Nat) (h1:1<=q) (h2:q<=6) (L:List (List Int)) (hL:L.length=K+M) (hbig:K+M<=1000000) (h0:0<K+M) (hr: ∀r,r∈L->r.length=S) (hS:S<=1000000):Ev (fun k=>b3z.f k L (K:Int) q) (passB S q K M L):=by
 have hw:wrap64 ((L.length:Int) - (K:Int))=(M:Int):=by rw [hL];unfold wrap64;omega
 have hrd:(rd_L1 L 0).length=S:=by
  unfold rd_L1;rw [show Int.toNat 0=0 from rfl,List.getD_eq_getElem?_getD,List.getElem?_eq_getElem (by omega)];exact hr _ (List.getElem_mem _)
 have hlo:=long_ev S q (K:Int) h1 h2 L (by omega) hrd;refine Ev.congr (f:=fun k=>(aJz.f q (K:Int) (M:Int)).bind fun t852=>(if t852=true then ((cuz.f k L (K:Int) q).bind fun t853=>(if t853=true then ((bjz.f k q (K:Int) (M:Int) L).bind fun t854=>(some t854)) else (some false))) else (some false))) (fun k=> ?_) ?_
 ·unfold b3z.f dGz.f;rw [Option.bind_some,hw]
 obtain ⟨b,hb⟩:=ekz q (K:Int) (M:Int);unfold passB mayQ;simp only [hb,Option.bind_some]
 cases b with
 |false=>exact Ev.now _
 |true=>
  refine Ev.congr (f:=fun k=>(cuz.f k L (K:Int) q).bind fun t853=>(if t853=true then ((bjz.f k q (K:Int) (M:Int) L).bind fun t854=>(some t854)) else (some false))) (fun k=>by rw [if_pos rfl]) ?_;refine Ev.bind hlo ?_
  cases hlb:longB S q with
  |false=>
   refine Ev.congr (fun k=> ?_) (Ev.now _);rw [if_neg (by decide)];rfl
  |true=>
   unfold longB at hlb;simp only [Bool.and_eq_true,decide_eq_true_eq] at hlb;have hv:=ver_dec q K M S (L.take K) (L.drop K) hb (by rw [List.length_take];omega) hS (unit_even h1 h2 hlb.2) (fun r hr'=>hr r (List.mem_of_mem_take hr')) (by rw [List.length_drop];omega);rw [List.take_append_drop] at hv;refine Ev.congr (f:=fun k=>(bjz.f k q (K:Int) (M:Int) L).bind fun t854=>(some t854)) (fun k=>by rw [if_pos rfl]) ?_;refine Ev.bind hv ?_;refine Ev.congr (fun k=> ?_) (Ev.now _);rfl
theorem trial_l_ev (L:List (List Int)) (K:Int) (b:Int->Bool): ∀(ps acc:List Int),(∀q,q∈ps->Ev (fun k=>b3z.f k L K q) (b q))->Ev (fun k=>bSz.l k L K ps acc) (acc++ps.filter b)
 | [],acc,_=>by
  refine Ev.congr (fun k=> ?_) (Ev.now _);rw [bSz.l];simp
 |p::ps,acc,h=>by
  refine Ev.congr (f:=fun k=>(b3z.f k L K p).bind fun t=>bSz.l k L K ps (if t=true then acc++ [p] else acc)) (fun k=>by rw [bSz.l]) ?_;refine Ev.bind (h p (List.mem_cons_self ..)) ?_;have ih:=trial_l_ev L K b ps (if b p=true then acc++ [p] else acc) (fun q hq=>h q (List.mem_cons_of_mem _ hq))
  cases hp:b p with
  |true=>
   rw [hp,if_pos rfl] at ih;rw [List.filter_cons_of_pos hp,if_pos rfl];rwa [List.append_assoc] at ih
  |false=>
   rw [hp,if_neg (by decide)] at ih;rw [List.filter_cons_of_neg (by rw [hp];decide),if_neg (by decide)];exact ih
def all6:List Int:= [1,2,3,4,5,6]
theorem all_ev:Ev (fun k=>bJz.f k) all6:=Ev.of (fun k=>bJz.mono k) (k:=8) kr_
theorem all6_mem {q:Int} :q∈all6↔1<=q/\q<=6:=by
 unfold all6;simp only [List.mem_cons,List.not_mem_nil,or_false];omega
theorem trial_ev (L:List (List Int)) (K:Int) (b:Int->Bool) (h: ∀q,1<=q->q<=6->Ev (fun k=>b3z.f k L K q) (b q)):Ev (fun k=>bSz.f k L K) (all6.filter b):=by
 unfold bSz.f;refine Ev.bind all_ev ?_;refine Ev.congr (f:=fun k=>bSz.l k L K all6 []) (fun k=>by rw [if_pos (by decide)]) ?_;have:=trial_l_ev L K b all6 [] (fun q hq=>h q (all6_mem.1 hq).1 (all6_mem.1 hq).2);rwa [List.nil_append] at this
theorem trial_ev2 (K M S:Nat) (L:List (List Int)) (hL:L.length=K+M) (hbig:K+M<=1000000) (h0:0<K+M) (hr: ∀r,r∈L->r.length=S) (hS:S<=1000000):Ev (fun k=>bSz.f k L (K:Int)) (all6.filter fun q=>passB S q K M L):=
 trial_ev L (K:Int) _ (fun q h1 h2=>pass_ev q K M S h1 h2 L hL hbig h0 hr hS)
theorem sum_bad0 (rows : List (List Int)) (L : Nat) (hL : L <= 100000000) (hn : rows.length <= 1000) (j : Nat) (b : List Int) (hj : rows[j]? = some b) (hb : b.length ≠ L) :
  ∀(m i:Nat) (acc:List Int),i+m=rows.length->acc.length=L->i<=j-> ∃K,aKz.l0 K acc rows (rows.length:Int) (i:Int)=some ([],1)
 |0,i,acc,hi,_,hij=>by
  have:=(List.getElem?_eq_some_iff.1 hj).1;omega
 |m+1,i,acc,hi,ha,hij=>by
  obtain ⟨row,hrow⟩: ∃r,rows[i]?=some r:=⟨_,List.getElem?_eq_getElem (by omega)⟩;have hrd:rd_L1 rows (i:Int)=row:=by unfold rd_L1;rw [Int.toNat_natCast,List.getD_eq_getElem?_getD,hrow];rfl
  by_cases hrl:row.length=L
  ·have hne : i ≠ j := fun e => by
    subst e;rw [hrow] at hj;obtain rfl:=Option.some.inj hj;exact hb hrl
   obtain ⟨K,hK⟩:=sum_bad0 rows L hL hn j b hj hb m (i+1) (xorB acc row) (by omega) (by rw [c0z _ _ (by omega)];exact hrl) (by omega);have h1:=sum_l1 rows (rows.length:Int) i acc row _ K (by omega) (by omega) (by omega) hK row.length 0 (by omega);refine ⟨K+row.length+1+1,?_⟩;unfold aKz.l0;rw [if_pos (by omega),if_pos (by omega),if_pos (by omega),hrd,if_pos (by omega)]
   simpa using h1
  ·refine ⟨1,?_⟩;unfold aKz.l0;rw [if_pos (by omega),if_pos (by omega),if_pos (by omega),hrd,if_neg (by omega)]
theorem sum_bad (rows:List (List Int)) (L:Nat) (hL:L<=100000000) (hn:rows.length<=1000) (a b:List Int) (h0:rows[0]?=some a) (ha:a.length=L) (j:Nat) (hj:rows[j]?=some b) (hb:b.length≠L):Ev (fun k=>aKz.f k rows) ([],1):=by
 have hl:=(List.getElem?_eq_some_iff.1 h0).1;have hrd:rd_L1 rows 0=a:=by unfold rd_L1;rw [show (0:Int).toNat=0 from rfl,List.getD_eq_getElem?_getD,h0];rfl
 obtain ⟨K,hK⟩:=sum_bad0 rows L hL hn j b hj hb rows.length 0 (List.replicate L 0) (by omega) (by simp) (by omega);refine Ev.of (fun k=>aKz.mono _ k) (k:=K) ?_;unfold aKz.f;rw [if_pos (by omega),hrd,if_pos (by omega),if_pos (by omega),ha,Int.toNat_natCast];exact hK
theorem dotB_bad (wb:Int) (c:List Int) (D:List (List Int)) (L:Nat) (hc:c.length=D.length) (hn:D.length<=1000) (hr: ∀r,r∈D->r.length<=1000000) (a b:List Int) (h0:D[0]?=some a) (ha:a.length=L) (j:Nat) (hj:D[j]?=some b) (hb:b.length≠L):Ev (fun k=>dotB k wb c D) ([],1):=by
 unfold dotB;by_cases he:D.all (evB wb)=true
 ·refine Ev.congr (fun k=>by rw [if_pos he]) ?_
  have hev: ∀r,r∈D->r.length % wN wb=0:=fun r hm=>by
   have:=List.all_eq_true.1 he r hm;unfold evB at this;exact eq_of_beq this
  have hz: ∀(i:Nat) (r:List Int),D[i]?=some r-> ∃x,(List.zipWith (mulB wb) c D)[i]?=some x/\x.length=r.length:=fun i r hi=>by
   have:=(List.getElem?_eq_some_iff.1 hi).1;refine ⟨mulB wb (c[i]'(by omega)) r,?_,mulB_len wb _ r (hev r (List.mem_of_getElem? hi))⟩;rw [List.getElem?_zipWith,List.getElem?_eq_getElem (l:=c) (by omega),hi]
  obtain ⟨x,hx,hxl⟩:=hz 0 a h0;obtain ⟨y,hy,hyl⟩:=hz j b hj;have:=hr a (List.mem_of_getElem? h0);exact sum_bad _ L (by omega) (by rw [List.length_zipWith];omega) x y hx (by omega) j hy (by omega)
 ·exact Ev.congr (fun k=>by rw [if_neg he]) (Ev.now _)
theorem xorN_len2 {S:Nat} {a b:List Nat} (ha:a.length=S) (hb:b.length=S):(xorN a b).length=S:=by simp [xorN,ha,hb]
theorem mulN_len {wb:Int} (hw:wb=8\/wb=16) (c:Int) (n:List Nat) (hb: ∀x,x∈n->x<256) (he:n.length % wN wb=0):(mulN wb c n).length=n.length:=by
 have h:=mulB_len wb c (castN n) (by simpa [castN] using he);rw [mulB_nat hw c n hb he] at h
 simpa [castN] using h
theorem foldN_lt: ∀(A:List (List Nat)) (a:List Nat),(∀x,x∈a->x<256)->(∀r,r∈A-> ∀x,x∈r->x<256)-> ∀x,x∈A.foldl xorN a->x<256
 | [],_,h,_=>h
 |r::rs,a,h,hr=>foldN_lt rs (xorN a r) (xorN_lt (w:=8) a r h (hr r (List.mem_cons_self ..))) (fun q hq=>hr q (List.mem_cons_of_mem _ hq))
theorem dotN_lt (S:Nat) (wb:Int) (c:List Int) (P:List (List Nat)): ∀x,x∈dotN S wb c P->x<256:=by
 unfold dotN;refine foldN_lt _ _ (fun x hx=> ?_) (fun r hr=> ?_)
 ·have:=List.eq_of_mem_replicate hx;omega
 ·obtain ⟨i,hi,rfl⟩:=List.mem_iff_getElem.1 hr;rw [List.getElem_zipWith];exact mulN_lt _ _ _
theorem rin_f (k:Nat) {wb:Int} (hw:wb=8\/wb=16) (a:Int):afz.f k wb a=some (inF wb a):=by
 unfold afz.f;rw [if_pos hw]
theorem rmul2_f (k:Nat) {wb:Int} (hw:wb=8\/wb=16) (a b:Int):aBz.f k wb (fpoly wb) a b=some (gmul wb a b):=by
 unfold aBz.f;rw [rin_f k hw a,Option.bind_some];by_cases ha:inF wb a=true
 ·rw [if_pos ha,rin_f k hw b,Option.bind_some];by_cases hb:inF wb b=true
  ·have hlt:=bHz hw a b;have e:gmul wb a b=((gmN wb a.toNat b.toNat:Nat):Int):=by unfold gmul;rw [ha,hb];rfl
   have hf:=dkz hw;rw [if_pos hb];unfold inF at ha hb;simp only [Bool.and_eq_true,decide_eq_true_eq] at ha hb;have e1:a % 4294967296=a:=by omega
   have e2:b % 4294967296=b:=by omega
   rw [e1,e2]
   have hm:aHz.f k a b (fpoly wb)=some (gmul wb a b):=by
    rw [e];unfold aHz.f gmN;rcases hw with rfl|rfl
    ·rw [if_pos ⟨rfl,by unfold inF;simp;omega,by unfold inF;simp;omega⟩,if_pos rfl]
    ·rw [if_neg (fun h=>absurd h.1 (by decide)),if_pos ⟨rfl,by unfold inF;simp;omega,by unfold inF;simp;omega⟩,if_neg (by decide)]
   rw [hm,Option.bind_some,w64 (by omega) (by omega)]
  ·rw [if_neg hb,gmul_out (by simp [hb])]
 ·rw [if_neg ha,gmul_out (by simp [ha])]
theorem bOz (n:List Nat):(castN n).length=n.length:=by unfold castN;rw [List.length_map]
theorem eOz (a b:List Nat):castN (a++b)=castN a++castN b:=by unfold castN;rw [List.map_append]
theorem ebz (n:List Nat) (i:Nat) (x:Nat) (h:n[i]?=some x):rd (castN n) (i:Int)=(x:Int):=by
 unfold rd castN;rw [Int.toNat_natCast,List.getD_eq_getElem?_getD,List.getElem?_map,h];rfl
theorem rwords8_l (n:List Nat) (hb: ∀x,x∈n->x<256) (hl:n.length<=1000000): ∀(m i:Nat),i+m=n.length->Ev (fun k=>aVz.l0 k (castN n) (castN (n.take i)) 1 (i:Int)) (castN n,true):=by
 intro m
 induction m with
 |zero=>
  intro i hi;refine Ev.step (f:=fun _=>some (castN n,true)) (fun k=> ?_) (Ev.now _);rw [aVz.l0,bOz,w64 (by omega) (by omega),if_neg (by omega),if_neg (by decide),List.take_of_length_le (by omega)];congr 2
  simp
 |succ m ih=>
  intro i hi;obtain ⟨x,hx⟩: ∃x,n[i]?=some x:=⟨_,List.getElem?_eq_getElem (by omega)⟩;have hx8:=hb x (List.mem_of_getElem? hx);refine Ev.step (fun k=> ?_) (ih (i+1) (by omega));rw [aVz.l0,bOz,w64 (x:=(i:Int)+1) (by omega) (by omega),if_pos (by omega),if_pos (by omega),if_pos (by omega),if_neg (by decide),bOz,if_pos (by rw [List.length_take];omega),ebz n i x hx,w64 (x:=(x:Int)) (by omega) (by omega),List.take_add_one,hx,eOz,show ((i:Int)+1)=((i+1:Nat):Int) by omega];rfl
theorem rwords16_l (n:List Nat) (hb: ∀x,x∈n->x<256) (hl:n.length<=1000000) (he:n.length % 2=0): ∀(m j:Nat),2*j+2*m=n.length->Ev (fun k=>aVz.l0 k (castN n) (castN (pairN (n.take (2*j)))) 2 ((2*j:Nat):Int)) (castN (pairN n),true):=by
 intro m
 induction m with
 |zero=>
  intro j hj;refine Ev.step (f:=fun _=>some (castN (pairN n),true)) (fun k=> ?_) (Ev.now _);rw [aVz.l0,bOz,w64 (by omega) (by omega),if_neg (by omega),if_neg (by decide),List.take_of_length_le (by omega)];congr 2
  have:(n.length:Int) % 2=0:=by omega
  rw [this];rfl
 |succ m ih=>
  intro j hj;obtain ⟨x,hx⟩: ∃x,n[2*j]?=some x:=⟨_,List.getElem?_eq_getElem (by omega)⟩;obtain ⟨y,hy⟩: ∃y,n[2*j+1]?=some y:=⟨_,List.getElem?_eq_getElem (by omega)⟩;have hx8:=hb x (List.mem_of_getElem? hx);have hy8:=hb y (List.mem_of_getElem? hy)
  have e3:n.take (2*(j+1))=n.take (2*j)++ [x,y] :=by
   rw [show 2*(j+1)=2*j+1+1 by omega,List.take_add_one,List.take_add_one,hx,hy];simp
  have hpl:(pairN (n.take (2*j))).length<=1000000:=by rw [eyz,List.length_take];omega
  refine Ev.step (fun k=> ?_) (ih (j+1) (by omega));rw [aVz.l0,bOz,w64 (x:=((2*j:Nat):Int)+2) (by omega) (by omega),w64 (x:=((2*j:Nat):Int)+1) (by omega) (by omega),if_pos (by omega),if_pos (by omega),if_pos (by omega),if_pos rfl,if_pos (by omega),if_pos (by omega),bOz,if_pos (by omega),ebz n (2*j) x hx,show (((2*j:Nat):Int)+1)=((2*j+1:Nat):Int) by omega,ebz n (2*j+1) y hy,w64 (x:=(x:Int)) (by omega) (by omega),w64 (x:=(y:Int)) (by omega) (by omega),w64 (x:=256*(y:Int)) (by omega) (by omega),w64 (x:=(x:Int)+256*(y:Int)) (by omega) (by omega),show (((2*j:Nat):Int)+2)=((2*(j+1):Nat):Int) by omega,e3,eNz x y _ (by rw [List.length_take];omega),eOz];congr 2
theorem rwords_ev {wb:Int} (hw:wb=8\/wb=16) (n:List Nat) (hb: ∀x,x∈n->x<256) (hl:n.length<=1000000) (he:n.length % wN wb=0):Ev (fun k=>aVz.f k wb (castN n)) (castN (if wb=8 then n else pairN n),true):=by
 rcases hw with rfl|rfl
 ·rw [if_pos rfl];refine Ev.congr (fun k=> ?_) (rwords8_l n hb hl n.length 0 (by omega));unfold aVz.f;rw [show wrap64 (Int.tdiv 8 8)=1 by show wrap64 1=1;unfold wrap64;omega];rfl
 ·rw [if_neg (by decide)];refine Ev.congr (fun k=> ?_) (rwords16_l n hb hl he (n.length / 2) 0 (by have:n.length % 2=0:=he;omega));unfold aVz.f;rw [show wrap64 (Int.tdiv 16 8)=2 by show wrap64 2=2;unfold wrap64;omega];simp [castN,pairN]
theorem rbytes8_l (n:List Nat) (hb: ∀x,x∈n->x<256) (hl:n.length<=1000000): ∀(m i:Nat),i+m=n.length->Ev (fun k=>aWz.l0 k 8 (castN n) (castN (n.take i)) (i:Int)) (castN n,true):=by
 intro m
 induction m with
 |zero=>
  intro i hi;refine Ev.step (f:=fun _=>some (castN n,true)) (fun k=> ?_) (Ev.now _);rw [aWz.l0,bOz,if_neg (by omega),List.take_of_length_le (by omega)]
 |succ m ih=>
  intro i hi;obtain ⟨x,hx⟩: ∃x,n[i]?=some x:=⟨_,List.getElem?_eq_getElem (by omega)⟩;have hx8:=hb x (List.mem_of_getElem? hx);have hin:inF 8 (x:Int)=true:=by unfold inF;rw [show fsize 8=256 from rfl];simp;omega
  refine Ev.step (fun k=> ?_) (ih (i+1) (by omega));rw [aWz.l0,bOz,if_pos (by omega),if_pos (by omega),ebz n i x hx,rin_f k (.inl rfl),Option.bind_some,if_pos hin,bOz,if_pos (by rw [List.length_take];omega),Option.bind_some,if_neg (by decide),w64 (by omega) (by omega),List.take_add_one,hx,eOz,show ((i:Int)+1)=((i+1:Nat):Int) by omega,Int.tmod_eq_emod_of_nonneg (by omega),show ((x:Int) % 256 % 256)=(x:Int) by omega];rfl
theorem flatN_snoc (x:Nat): ∀l:List Nat,flatN (l++ [x])=flatN l++flatN [x]
 | [] =>rfl
 |y::l=>by
  have:=flatN_snoc x l;simp only [List.cons_append,flatN] at this|-;rw [this]
theorem flatN_len: ∀l:List Nat,(flatN l).length=2*l.length
 | [] =>rfl
 |y::l=>by
  have:=flatN_len l;simp only [flatN,List.length_cons] at this|-;omega
theorem rbytes16_l (n:List Nat) (hb: ∀x,x∈n->x<65536) (hl:n.length<=1000000): ∀(m i:Nat),i+m=n.length->Ev (fun k=>aWz.l0 k 16 (castN n) (castN (flatN (n.take i))) (i:Int)) (castN (flatN n),true):=by
 intro m
 induction m with
 |zero=>
  intro i hi;refine Ev.step (f:=fun _=>some (castN (flatN n),true)) (fun k=> ?_) (Ev.now _);rw [aWz.l0,bOz,if_neg (by omega),List.take_of_length_le (by omega)]
 |succ m ih=>
  intro i hi;obtain ⟨x,hx⟩: ∃x,n[i]?=some x:=⟨_,List.getElem?_eq_getElem (by omega)⟩;have hx8:=hb x (List.mem_of_getElem? hx);have hin:inF 16 (x:Int)=true:=by unfold inF;rw [show fsize 16=65536 from rfl];simp;omega
  have hfl:=flatN_len (n.take i);rw [List.length_take] at hfl
  have e5:castN (flatN [x])= [(x:Int) % 256 % 256] ++ [(x:Int) / 256 % 256] :=by
   simp only [castN,flatN,List.map_cons,List.map_nil,List.cons_append,List.nil_append];rw [show ((x % 256:Nat):Int)=(x:Int) % 256 % 256 by omega,show ((x / 256 % 256:Nat):Int)=(x:Int) / 256 % 256 by omega]
  refine Ev.step (fun k=> ?_) (ih (i+1) (by omega));rw [aWz.l0,bOz,if_pos (by omega),if_pos (by omega),ebz n i x hx,rin_f k (.inr rfl),Option.bind_some,if_pos hin,bOz,if_pos (by omega),Option.bind_some,if_pos rfl,List.length_append,bOz,if_pos (by simp;omega),w64 (x:=(i:Int)+1) (by omega) (by omega),Int.tdiv_eq_ediv_of_nonneg (by omega),w64 (x:=(x:Int) / 256) (by omega) (by omega),List.take_add_one,hx,Option.toList_some,flatN_snoc,eOz,show ((i:Int)+1)=((i+1:Nat):Int) by omega,Int.tmod_eq_emod_of_nonneg (by omega),List.append_assoc,e5]
theorem rbytes_ev {wb:Int} (hw:wb=8\/wb=16) (n:List Nat) (hb: ∀x,x∈n->(x:Int)<fsize wb) (hl:n.length<=1000000):Ev (fun k=>aWz.f k wb (castN n)) (castN (if wb=8 then n else flatN n),true):=by
 rcases hw with rfl|rfl
 ·rw [if_pos rfl];refine Ev.congr (fun k=>by unfold aWz.f;simp [castN]) (rbytes8_l n (fun x hx=>by have:=hb x hx;rw [show fsize 8=256 from rfl] at this;omega) hl n.length 0 (by omega))
 ·rw [if_neg (by decide)]
  have h65: ∀x,x∈n->x<65536:=fun x hx=>by
   have:=hb x hx;rw [fsize16] at this;omega
  have h:=rbytes16_l n h65 hl n.length 0 (by omega);unfold aWz.f;exact h
theorem rmul3_l {wb : Int} (hw : wb = 8 \/ wb = 16) (c : Int) (n : List Nat) (hl : n.length <= 1000000) (r : List Int × Bool) (hr : Ev (fun k => (aWz.f k wb (castN (mapN (mN wb c) n))).bind fun t => some (t.1, t.2)) r) :
  ∀(m i:Nat),i+m=n.length->Ev (fun k=>a1z.l0 k wb (fpoly wb) c (castN n) (castN (mapN (mN wb c) (n.take i))) (i:Int)) r:=by
 intro m
 induction m with
 |zero=>
  intro i hi;refine Ev.step (fun k=> ?_) hr;rw [a1z.l0,bOz,if_neg (by omega),List.take_of_length_le (by omega)]
 |succ m ih=>
  intro i hi;obtain ⟨x,hx⟩: ∃x,n[i]?=some x:=⟨_,List.getElem?_eq_getElem (by omega)⟩;have hg:=bHz hw c (x:Int);refine Ev.step (fun k=> ?_) (ih (i+1) (by omega));rw [a1z.l0,bOz,if_pos (by omega),if_pos (by omega),ebz n i x hx,rmul2_f k hw,Option.bind_some,bOz,if_pos (by unfold mapN;rw [List.length_map,List.length_take];omega),w64 (by omega) (by omega),show ((i:Int)+1)=((i+1:Nat):Int) by omega,List.take_add_one,hx];congr 2
  unfold mapN castN mN;simp;omega
theorem rmul3_ev {wb:Int} (hw:wb=8\/wb=16) (c:Int) (hc:inF wb c=true) (n:List Nat) (hb: ∀x,x∈n->x<256) (hl:n.length<=1000000) (he:n.length % wN wb=0):Ev (fun k=>a1z.f k wb (fpoly wb) c (castN n)) (castN (mulN wb c n),true):=by
 refine Ev.bind (rwords_ev hw n hb hl he) ?_;refine Ev.congr (fun k=>by rw [if_pos rfl,rin_f k hw,Option.bind_some,hc]) ?_;refine Ev.step (fun k=>by rw [a1z.j0,if_neg (by decide)]) ?_;obtain ⟨q,hq⟩: ∃q,(if wb=8 then n else pairN n)=q:=⟨_,rfl⟩
 have hql:q.length<=1000000:=by
  rw [<-hq];split
  ·exact hl
  ·rw [eyz];omega
 have hml: ∀x,x∈mapN (mN wb c) q->(x:Int)<fsize wb:=by
  intro x hx;unfold mapN at hx;obtain ⟨y,hy,rfl⟩:=List.mem_map.1 hx;have:=bHz hw c (y:Int);unfold mN;omega
 have hB:=rbytes_ev hw (mapN (mN wb c) q) hml (by unfold mapN;rw [List.length_map];exact hql)
 have hfin:castN (mulN wb c n)=castN (if wb=8 then mapN (mN wb c) q else flatN (mapN (mN wb c) q)):=by
  unfold mulN;rcases hw with rfl|rfl
  ·rw [if_pos rfl,if_pos rfl, <-hq,if_pos rfl]
  ·rw [if_neg (by decide),if_neg (by decide), <-hq,if_neg (by decide)]
 rw [hq,hfin];exact rmul3_l hw c q hql _ (Ev.bind hB (Ev.now _)) q.length 0 (by omega)
theorem radd_l (a b:List Int) (hl:a.length=b.length) (hm:a.length<=1000000): ∀(m i:Nat),i+m=a.length->Ev (fun k=>aSz.l0 k a b ((xorB a b).take i) (i:Int)) (xorB a b,true):=by
 have hxl:(xorB a b).length=a.length:=by rw [c0z a b hl,hl]
 intro m
 induction m with
 |zero=>
  intro i hi;refine Ev.step (f:=fun _=>some (xorB a b,true)) (fun k=> ?_) (Ev.now _);rw [aSz.l0,if_neg (by omega),List.take_of_length_le (by omega)]
 |succ m ih=>
  intro i hi;have hia:i<a.length:=by omega
  have hib:i<b.length:=by omega
  have e1:rd a (i:Int)=a[i] :=by unfold rd;rw [Int.toNat_natCast,List.getD_eq_getElem?_getD,List.getElem?_eq_getElem hia];rfl
  have e2:rd b (i:Int)=b[i] :=by unfold rd;rw [Int.toNat_natCast,List.getD_eq_getElem?_getD,List.getElem?_eq_getElem hib];rfl
  have e3:(xorB a b)[i]?=some (Go.bits .xor .u8 a[i] b[i]):=by
   unfold xorB;rw [List.getElem?_zipWith,List.getElem?_eq_getElem hia,List.getElem?_eq_getElem hib]
  refine Ev.step (fun k=> ?_) (ih (i+1) (by omega));rw [aSz.l0,if_pos (by omega),if_pos (by omega),if_pos (by omega),if_pos (by rw [List.length_take];omega),e1,e2,w64 (by omega) (by omega),show ((i:Int)+1)=((i+1:Nat):Int) by omega,List.take_add_one,e3];rfl
theorem radd_ev (a b:List Int) (hl:a.length=b.length) (hm:a.length<=1000000):Ev (fun k=>aSz.f k a b) (xorB a b,true):=by
 refine Ev.congr (fun k=> ?_) (radd_l a b hl hm a.length 0 (by omega));unfold aSz.f;rw [if_pos (by omega)];rfl
theorem xor_zero_row (x:List Nat) (hb: ∀y,y∈x->y<256):xorN (List.replicate x.length 0) x=x:=by
 clear hb
 induction x with
 |nil=>rfl
 |cons y x ih=>
  unfold xorN at ih|-;rw [List.length_cons,List.replicate_succ,List.zipWith_cons_cons,ih,Nat.zero_xor]
theorem rdot_l {wb : Int} (hw : wb = 8 \/ wb = 16) (S : Nat) (hS : S <= 1000000) (he : S % wN wb = 0) (c : List Int) (P : List (List Nat)) (hc : c.length = P.length) (hcl : P.length <= 1000) (hin : ∀ x, x ∈ c -> inF wb x = true) (hP : ∀ r, r ∈ P -> r.length = S /\ ∀ x, x ∈ r -> x < 256) :
  ∀(m i:Nat),i+m=P.length->0<i->Ev (fun k=>amz.l0 k wb (fpoly wb) c (P.map castN) (castN (dotN S wb (c.take i) (P.take i))) (i:Int)) (castN (dotN S wb c P),true):=by
 intro m
 induction m with
 |zero=>
  intro i hi _;refine Ev.step (f:=fun _=>some (castN (dotN S wb c P),true)) (fun k=> ?_) (Ev.now _);rw [amz.l0,if_neg (by omega),List.take_of_length_le (by omega),List.take_of_length_le (by omega)]
 |succ m ih=>
  intro i hi h0;obtain ⟨x,hx⟩: ∃x,c[i]?=some x:=⟨_,List.getElem?_eq_getElem (by omega)⟩;obtain ⟨r,hr⟩: ∃r,P[i]?=some r:=⟨_,List.getElem?_eq_getElem (by omega)⟩;obtain ⟨r0,hr0⟩: ∃r,P[0]?=some r:=⟨_,List.getElem?_eq_getElem (by omega)⟩;have hrP:=hP r (List.mem_of_getElem? hr);have hr0P:=hP r0 (List.mem_of_getElem? hr0);have e1:rd c (i:Int)=x:=by unfold rd;rw [Int.toNat_natCast,List.getD_eq_getElem?_getD,hx];rfl
  have e2:rd_L1 (P.map castN) (i:Int)=castN r:=by unfold rd_L1;rw [Int.toNat_natCast,List.getD_eq_getElem?_getD,List.getElem?_map,hr];rfl
  have e0:rd_L1 (P.map castN) 0=castN r0:=by unfold rd_L1;rw [show (0:Int).toNat=0 from rfl,List.getD_eq_getElem?_getD,List.getElem?_map,hr0];rfl
  have hz:List.zipWith (mulN wb) (c.take (i+1)) (P.take (i+1))=List.zipWith (mulN wb) (c.take i) (P.take i)++ [mulN wb x r] :=eUz _ _ _ _ _ _ hx hr;have hml:(mulN wb x r).length=S:=by rw [mulN_len hw x r hrP.2 (by rw [hrP.1];exact he),hrP.1]
  have hzl: ∀q,q∈List.zipWith (mulN wb) (c.take i) (P.take i)->q.length=S:=by
   intro q hq;obtain ⟨j,hj⟩:=List.getElem?_of_mem hq;rw [List.getElem?_zipWith] at hj
   cases hcj:(c.take i)[j]? with
   |none=>rw [hcj] at hj;simp at hj
   |some y=>
    cases hPj:(P.take i)[j]? with
    |none=>rw [hcj,hPj] at hj;simp at hj
    |some z=>
     rw [hcj,hPj] at hj;obtain rfl:=Option.some.inj hj;have hzP:=hP z (List.mem_of_mem_take (List.mem_of_getElem? hPj));rw [mulN_len hw y z hzP.2 (by rw [hzP.1];exact he),hzP.1]
  have hfl: ∀(zs:List (List Nat)) (a:List Nat),a.length=S->(∀q,q∈zs->q.length=S)->(zs.foldl xorN a).length=S:=by
   intro zs
   induction zs with
   |nil=>intro a ha _;exact ha
   |cons z zs ih2=>intro a ha h;exact ih2 _ (xorN_len2 ha (h z (List.mem_cons_self ..))) (fun q hq=>h q (List.mem_cons_of_mem _ hq))
  have hdl:(dotN S wb (c.take i) (P.take i)).length=S:=hfl _ _ List.length_replicate hzl
  have hzb: ∀q,q∈List.zipWith (mulN wb) (c.take i) (P.take i)-> ∀y,y∈q->y<256:=by
   intro q hq;obtain ⟨j,hj⟩:=List.getElem?_of_mem hq;rw [List.getElem?_zipWith] at hj
   cases hcj:(c.take i)[j]? with
   |none=>rw [hcj] at hj;simp at hj
   |some y=>
    cases hPj:(P.take i)[j]? with
    |none=>rw [hcj,hPj] at hj;simp at hj
    |some z=>
     rw [hcj,hPj] at hj;obtain rfl:=Option.some.inj hj;exact mulN_lt wb y z
  have hfb: ∀(zs:List (List Nat)) (a:List Nat),(∀y,y∈a->y<256)->(∀q,q∈zs-> ∀y,y∈q->y<256)-> ∀y,y∈zs.foldl xorN a->y<256:=by
   intro zs
   induction zs with
   |nil=>intro a ha _;exact ha
   |cons z zs ih2=>intro a ha h;exact ih2 _ (xorN_lt (w:=8) _ _ ha (h z (List.mem_cons_self ..))) (fun q hq=>h q (List.mem_cons_of_mem _ hq))
  have hdb: ∀y,y∈dotN S wb (c.take i) (P.take i)->y<256:=hfb _ _ (fun y hy=>by rw [List.mem_replicate] at hy;omega) hzb
  have hstep:dotN S wb (c.take (i+1)) (P.take (i+1))=xorN (dotN S wb (c.take i) (P.take i)) (mulN wb x r):=by
   unfold dotN;rw [hz,List.foldl_append];rfl
  have hnext:=ih (i+1) (by omega) (by omega);rw [hstep] at hnext;have hadd:=radd_ev (castN (dotN S wb (c.take i) (P.take i))) (castN (mulN wb x r)) (by rw [bOz,bOz,hdl,hml]) (by rw [bOz,hdl];exact hS);rw [show xorB (castN (dotN S wb (c.take i) (P.take i))) (castN (mulN wb x r))=castN (xorN (dotN S wb (c.take i) (P.take i)) (mulN wb x r)) from xorB_nat _ _ hdb (mulN_lt wb x r)] at hadd
  have hj2:Ev (fun k=>amz.j2 k wb (fpoly wb) c (P.map castN) (castN (dotN S wb (c.take i) (P.take i))) (i:Int) (castN (mulN wb x r)) false) (castN (dotN S wb c P),true):=by
   refine Ev.step (fun k=> ?_) (Ev.bind (f:=fun k t=>amz.l0 k wb (fpoly wb) c (P.map castN) t.1 ((i+1:Nat):Int)) hadd hnext);rw [amz.j2,if_neg (by decide),if_neg (by omega),w64 (by omega) (by omega)];rfl
  refine Ev.step (f:=fun k=>(a1z.f k wb (fpoly wb) x (castN r)).bind fun t=>if t.2=true then (if 0<((P.map castN).length:Int) then amz.j2 k wb (fpoly wb) c (P.map castN) (castN (dotN S wb (c.take i) (P.take i))) (i:Int) t.1 (((rd_L1 (P.map castN) (i:Int)).length:Int) !=((rd_L1 (P.map castN) 0).length:Int)) else none) else amz.j2 k wb (fpoly wb) c (P.map castN) (castN (dotN S wb (c.take i) (P.take i))) (i:Int) t.1 true) (fun k=> ?_) (Ev.bind (rmul3_ev hw x (hin x (List.mem_of_getElem? hx)) r hrP.2 (by omega) (by rw [hrP.1];exact he)) (Ev.congr (fun k=> ?_) hj2))
  ·rw [amz.l0,if_pos (by omega),if_pos (by omega),if_pos (by rw [List.length_map];omega),e1]
   conv=>lhs;rw [e2]
   rw [e2]
  ·dsimp only;rw [if_pos rfl,if_pos (by rw [List.length_map];omega),e2,e0,bOz,bOz,hrP.1,hr0P.1,bne_self_eq_false]
theorem rdot_ev {wb : Int} (hw : wb = 8 \/ wb = 16) (S : Nat) (hS : S <= 1000000) (he : S % wN wb = 0) (c : List Int) (P : List (List Nat)) (hc : c.length = P.length) (hcl : P.length <= 1000) (h0 : 0 < P.length) (hin : ∀ x, x ∈ c -> inF wb x = true) (hP : ∀ r, r ∈ P -> r.length = S /\ ∀ x, x ∈ r -> x < 256) :
  Ev (fun k=>amz.f k wb (fpoly wb) c (P.map castN)) (castN (dotN S wb c P),true):=by
 obtain ⟨x,hx⟩: ∃x,c[0]?=some x:=⟨_,List.getElem?_eq_getElem (by omega)⟩;obtain ⟨r,hr⟩: ∃r,P[0]?=some r:=⟨_,List.getElem?_eq_getElem (by omega)⟩;have hrP:=hP r (List.mem_of_getElem? hr);have e1:rd c 0=x:=by unfold rd;rw [show (0:Int).toNat=0 from rfl,List.getD_eq_getElem?_getD,hx];rfl
 have e0:rd_L1 (P.map castN) 0=castN r:=by unfold rd_L1;rw [show (0:Int).toNat=0 from rfl,List.getD_eq_getElem?_getD,List.getElem?_map,hr];rfl
 have hml:(mulN wb x r).length=S:=by rw [mulN_len hw x r hrP.2 (by rw [hrP.1];exact he),hrP.1]
 have hone:dotN S wb (c.take 1) (P.take 1)=mulN wb x r:=by
  rw [List.take_add_one,List.take_add_one,hx,hr];unfold dotN;show xorN (List.replicate S 0) (mulN wb x r)=_;rw [<-hml];exact xor_zero_row _ (mulN_lt wb x r)
 have hnext:=rdot_l hw S hS he c P hc hcl hin hP (P.length - 1) 1 (by omega) (by omega);rw [hone] at hnext;refine Ev.congr (fun k=>by unfold amz.f;rw [if_pos (by rw [List.length_map];omega),beq_eq_false_iff_ne.2 (show (c.length:Int)≠0 by omega)]) ?_;refine Ev.step (fun k=>by rw [amz.j0,if_neg (by decide)]) ?_
 have hj2:Ev (fun k=>amz.j2 k wb (fpoly wb) c (P.map castN) ([] :List Int) 0 (castN (mulN wb x r)) false) (castN (dotN S wb c P),true):=by
  refine Ev.step (fun k=> ?_) hnext;rw [amz.j2,if_neg (by decide),if_pos rfl,show wrap64 (0+1)=((1:Nat):Int) by unfold wrap64;omega]
 refine Ev.step (f:=fun k=>(a1z.f k wb (fpoly wb) x (castN r)).bind fun t=>if t.2=true then (if 0<((P.map castN).length:Int) then amz.j2 k wb (fpoly wb) c (P.map castN) ([] :List Int) 0 t.1 (((rd_L1 (P.map castN) 0).length:Int) !=((rd_L1 (P.map castN) 0).length:Int)) else none) else amz.j2 k wb (fpoly wb) c (P.map castN) ([] :List Int) 0 t.1 true) (fun k=> ?_) (Ev.bind (rmul3_ev hw x (hin x (List.mem_of_getElem? hx)) r hrP.2 (by omega) (by rw [hrP.1];exact he)) (Ev.congr (fun k=> ?_) hj2))
 ·rw [amz.l0,if_pos (by omega),if_pos (by omega),if_pos (by rw [List.length_map];omega),e1,e0]
 ·dsimp only;rw [if_pos rfl,if_pos (by rw [List.length_map];omega),bne_self_eq_false]
theorem rp1_1_1:aaz.f 3000 8 285 1 1=some (jvM 8 1 1,true):=by kernel_rfl
theorem rp1_1_2:aaz.f 3000 8 285 1 2=some (jvM 8 1 2,true):=by kernel_rfl
theorem rp1_1_3:aaz.f 3000 8 285 1 3=some (jvM 8 1 3,true):=by kernel_rfl
theorem rp1_1_4:aaz.f 3000 8 285 1 4=some (jvM 8 1 4,true):=by kernel_rfl
theorem rp1_2_1:aaz.f 3000 8 285 2 1=some (jvM 8 2 1,true):=by kernel_rfl
theorem rp1_2_2:aaz.f 3000 8 285 2 2=some (jvM 8 2 2,true):=by kernel_rfl
theorem rp1_2_3:aaz.f 3000 8 285 2 3=some (jvM 8 2 3,true):=by kernel_rfl
theorem rp1_2_4:aaz.f 3000 8 285 2 4=some (jvM 8 2 4,true):=by kernel_rfl
theorem rp1_3_1:aaz.f 3000 8 285 3 1=some (jvM 8 3 1,true):=by kernel_rfl
theorem rp1_3_2:aaz.f 3000 8 285 3 2=some (jvM 8 3 2,true):=by kernel_rfl
theorem rp1_3_3:aaz.f 3000 8 285 3 3=some (jvM 8 3 3,true):=by kernel_rfl
theorem rp1_3_4:aaz.f 3000 8 285 3 4=some (jvM 8 3 4,true):=by kernel_rfl
theorem rp1_4_1:aaz.f 3000 8 285 4 1=some (jvM 8 4 1,true):=by kernel_rfl
theorem rp1_4_2:aaz.f 3000 8 285 4 2=some (jvM 8 4 2,true):=by kernel_rfl
theorem rp1_4_3:aaz.f 3000 8 285 4 3=some (jvM 8 4 3,true):=by kernel_rfl
theorem rp1_4_4:aaz.f 3000 8 285 4 4=some (jvM 8 4 4,true):=by kernel_rfl
theorem rp1_5_1:aaz.f 3000 8 285 5 1=some (jvM 8 5 1,true):=by kernel_rfl
theorem rp1_5_2:aaz.f 3000 8 285 5 2=some (jvM 8 5 2,true):=by kernel_rfl
theorem rp1_5_3:aaz.f 3000 8 285 5 3=some (jvM 8 5 3,true):=by kernel_rfl
theorem rp1_5_4:aaz.f 3000 8 285 5 4=some (jvM 8 5 4,true):=by kernel_rfl
theorem rp1_6_1:aaz.f 3000 8 285 6 1=some (jvM 8 6 1,true):=by kernel_rfl
theorem rp1_6_2:aaz.f 3000 8 285 6 2=some (jvM 8 6 2,true):=by kernel_rfl
theorem rp1_6_3:aaz.f 3000 8 285 6 3=some (jvM 8 6 3,true):=by kernel_rfl
theorem rp1_6_4:aaz.f 3000 8 285 6 4=some (jvM 8 6 4,true):=by kernel_rfl
theorem rp1_7_1:aaz.f 3000 8 285 7 1=some (jvM 8 7 1,true):=by kernel_rfl
theorem rp1_7_2:aaz.f 3000 8 285 7 2=some (jvM 8 7 2,true):=by kernel_rfl
theorem rp1_7_3:aaz.f 3000 8 285 7 3=some (jvM 8 7 3,true):=by kernel_rfl
theorem rp1_7_4:aaz.f 3000 8 285 7 4=some (jvM 8 7 4,true):=by kernel_rfl
theorem rp1_8_1:aaz.f 3000 8 285 8 1=some (jvM 8 8 1,true):=by kernel_rfl
theorem rp1_8_2:aaz.f 3000 8 285 8 2=some (jvM 8 8 2,true):=by kernel_rfl
theorem rp1_8_3:aaz.f 3000 8 285 8 3=some (jvM 8 8 3,true):=by kernel_rfl
theorem rp1_8_4:aaz.f 3000 8 285 8 4=some (jvM 8 8 4,true):=by kernel_rfl
theorem rpar_1 (K M:Nat) (h1:1<=K) (h2:K<=8) (h3:1<=M) (h4:M<=4):aaz.f 3000 8 285 (K:Int) (M:Int)=some (jvM 8 K M,true):=by
 have hk:K=1\/K=2\/K=3\/K=4\/K=5\/K=6\/K=7\/K=8:=by omega
 have hm:M=1\/M=2\/M=3\/M=4:=by omega
 rcases hk with rfl|rfl|rfl|rfl|rfl|rfl|rfl|rfl<;>rcases hm with rfl|rfl|rfl|rfl
 ·exact rp1_1_1
 ·exact rp1_1_2
 ·exact rp1_1_3
 ·exact rp1_1_4
 ·exact rp1_2_1
 ·exact rp1_2_2
 ·exact rp1_2_3
 ·exact rp1_2_4
 ·exact rp1_3_1
 ·exact rp1_3_2
 ·exact rp1_3_3
 ·exact rp1_3_4
 ·exact rp1_4_1
 ·exact rp1_4_2
 ·exact rp1_4_3
 ·exact rp1_4_4
 ·exact rp1_5_1
 ·exact rp1_5_2
 ·exact rp1_5_3
 ·exact rp1_5_4
 ·exact rp1_6_1
 ·exact rp1_6_2
 ·exact rp1_6_3
 ·exact rp1_6_4
 ·exact rp1_7_1
 ·exact rp1_7_2
 ·exact rp1_7_3
 ·exact rp1_7_4
 ·exact rp1_8_1
 ·exact rp1_8_2
 ·exact rp1_8_3
 ·exact rp1_8_4
def fN (wb:Int):Nat:=if wb=8 then 256 else 65536
theorem fN_fsize {wb:Int} (hw:wb=8\/wb=16):fsize wb=(fN wb:Int):=by rcases hw with rfl|rfl<;>rfl
theorem gmul_cast {wb a b:Int} (ha:0<=a/\a<fsize wb) (hb:0<=b/\b<fsize wb):gmul wb a b=(gmN wb a.toNat b.toNat:Int):=by
 unfold gmul inF;rw [if_pos (by simp [ha.1,ha.2,hb.1,hb.2])]
theorem d5z {wb a b:Int} (ha:0<=a/\a<fsize wb) (hb:0<=b/\b<fsize wb):(gmul wb a b).toNat=gmN wb a.toNat b.toNat:=by
 rw [gmul_cast ha hb,Int.toNat_natCast]
section
variable {wb : Int} (hw : wb = 8 \/ wb = 16)
include hw
theorem cMz: ∃(m q:Nat) (l:List Nat),GfInv m q l/\fN wb=2^(m+1)/\ ∀a b,gmN wb a b=gm m q a b:=by
 rcases hw with rfl|rfl
 ·exact ⟨7,285,_,gf8,rfl,fun a b=>rfl⟩
 ·exact ⟨15,69643,_,gf16,rfl,fun a b=>rfl⟩
theorem gmN_ltN {a:Nat} (b:Nat) (ha:a<fN wb):gmN wb a b<fN wb:=by
 obtain ⟨m,q,l,F,e,h⟩:=cMz hw;rw [h,e];exact F.lt (by rw [<-e];exact ha)
theorem gmN_xl {a c:Nat} (b:Nat) (ha:a<fN wb) (hc:c<fN wb):gmN wb (a^^^c) b=gmN wb a b^^^gmN wb c b:=by
 obtain ⟨m,q,l,F,e,h⟩:=cMz hw;rw [e] at ha hc;rw [h,h,h];exact F.dnz ha hc
theorem gmN_xr (a b c:Nat):gmN wb a (b^^^c)=gmN wb a b^^^gmN wb a c:=by
 obtain ⟨m,q,l,F,e,h⟩:=cMz hw;rw [h,h,h];exact Gf.dsz a b c
theorem gmN_comm {a b:Nat} (ha:a<fN wb) (hb:b<fN wb):gmN wb a b=gmN wb b a:=by
 obtain ⟨m,q,l,F,e,h⟩:=cMz hw;rw [e] at ha hb;rw [h,h];exact F.comm ha hb
theorem gmN_asc {a b:Nat} (ha:a<fN wb) (hb:b<fN wb) (c:Nat):gmN wb (gmN wb a b) c=gmN wb a (gmN wb b c):=by
 obtain ⟨m,q,l,F,e,h⟩:=cMz hw;rw [e] at ha hb;rw [h,h,h,h];exact F.assoc ha hb c
theorem gmN_id {a:Nat} (ha:a<fN wb):gmN wb a 1=a:=by
 obtain ⟨m,q,l,F,e,h⟩:=cMz hw;rw [e] at ha;rw [h];exact F.one_right ha
theorem one_ltN:1<fN wb:=by rcases hw with rfl|rfl<;>decide
theorem gmN_idl {a:Nat} (ha:a<fN wb):gmN wb 1 a=a:=by rw [gmN_comm hw (one_ltN hw) ha,gmN_id hw ha]
theorem gmN_zl (a:Nat):gmN wb 0 a=0:=by
 obtain ⟨m,q,l,F,e,h⟩:=cMz hw;rw [h];exact Gf.zero_left a
theorem cXz (a:Nat):gmN wb a 0=0:=by
 obtain ⟨m,q,l,F,e,h⟩:=cMz hw;rw [h];exact Gf.zero_right a
theorem xor_ltN {a b:Nat} (ha:a<fN wb) (hb:b<fN wb):a^^^b<fN wb:=by
 obtain ⟨m,q,l,F,e,h⟩:=cMz hw;rw [e] at ha hb|-;exact Nat.xor_lt_two_pow ha hb
theorem bXz {a:Int} (ha:0<=a/\a<fsize wb):a.toNat<fN wb:=by
 have:=fN_fsize hw;omega
theorem bx_toNat {a b:Int} (ha:0<=a/\a<fsize wb) (hb:0<=b/\b<fsize wb):(Go.bits .xor .i64 a b).toNat=a.toNat^^^b.toNat:=by
 obtain ⟨x,rfl⟩: ∃x:Nat,a=x:=⟨a.toNat,by omega⟩;obtain ⟨y,rfl⟩: ∃y:Nat,b=y:=⟨b.toNat,by omega⟩;rcases dkz hw with ⟨e, -⟩|⟨e, -⟩<;>rw [e] at ha hb
 ·rw [dEz x y (by omega) (by omega)];simp
 ·rw [dEz x y (by omega) (by omega)];simp
theorem gmN_inv {a:Nat} (ha:a<fN wb) (h0:a≠0):gmN wb a (ginv wb (a:Int)).toNat=1:=by
 have e:(ginv wb (a:Int)).toNat=gpwN wb a (fsize wb - 2).toNat:=by
  have hin:inF wb (a:Int)=true:=by
   unfold inF;rw [decide_eq_true (by omega),decide_eq_true (by rw [fN_fsize hw];omega)];rfl
  have hb:((a:Int) !=0)=true:=by simpa using h0
  have hf:decide ((0:Int)<=fsize wb - 2)=true:=by rcases hw with rfl|rfl<;>rfl
  unfold ginv;rw [hin,hb,if_pos (by decide)];unfold gpow;rw [hin,hf,if_pos (by decide),Int.toNat_natCast,Int.toNat_natCast]
 rw [e];rcases hw with rfl|rfl
 ·exact gf8.inv_left (m:=7) (by exact ha) h0
 ·exact gf16.inv_left (m:=15) (by exact ha) h0
end
theorem xor4 (a b c d:Nat):(a^^^b)^^^(c^^^d)=(a^^^c)^^^(b^^^d):=by
 rw [Nat.xor_assoc,Nat.xor_assoc, <-Nat.xor_assoc b, <-Nat.xor_assoc c,Nat.xor_comm b]
def evN (wb:Int):List Int->List Nat->Nat
 |x::r,y::v=>gmN wb x.toNat y^^^evN wb r v
 |_,_=>0
section
variable {wb : Int} (hw : wb = 8 \/ wb = 16)
include hw
theorem evN_clr {n : Int} (hn : 0 <= n /\ n < fsize wb) : ∀ (r p : List Int) (v : List Nat), r.length = p.length -> (∀ x, x ∈ r -> 0 <= x /\ x < fsize wb) -> (∀ x, x ∈ p -> 0 <= x /\ x < fsize wb) ->
  evN wb (List.zipWith (clrF wb n) r p) v=evN wb r v^^^gmN wb n.toNat (evN wb p v)
 | [], [],v,_,_,_=>by simp [evN,cXz hw]
 | [],_::_,_,h,_,_=>by simp at h
 |_::_, [],_,h,_,_=>by simp at h
 |x::r,y::p, [],_,_,_=>by simp [evN,cXz hw]
 |x::r,y::p,z::v,h,hr,hp=>by
  have ih:=evN_clr hn r p v (by simpa using h) (fun x hx=>hr x (List.mem_cons_of_mem _ hx)) (fun x hx=>hp x (List.mem_cons_of_mem _ hx));have hx:=hr x (List.mem_cons_self ..);have hy:=hp y (List.mem_cons_self ..);show gmN wb (clrF wb n x y).toNat z^^^evN wb (List.zipWith (clrF wb n) r p) v=(gmN wb x.toNat z^^^evN wb r v)^^^gmN wb n.toNat (gmN wb y.toNat z^^^evN wb p v)
  have e:(clrF wb n x y).toNat=x.toNat^^^gmN wb n.toNat y.toNat:=by
   unfold clrF;rw [bx_toNat hw hx (bHz hw _ _),d5z hn hy]
  rw [ih,e,gmN_xl hw z (bXz hw hx) (gmN_ltN hw _ (bXz hw hn)),gmN_asc hw (bXz hw hn) (bXz hw hy),gmN_xr hw,xor4]
theorem evN_scl {c : Int} (hc : 0 <= c /\ c < fsize wb) : ∀ (p : List Int) (v : List Nat), (∀ x, x ∈ p -> 0 <= x /\ x < fsize wb) ->
  evN wb (List.zipWith (fun x _=>gmul wb x c) p p) v=gmN wb c.toNat (evN wb p v)
 | [],v,_=>by simp [evN,cXz hw]
 |x::p, [],_=>by simp [evN,cXz hw]
 |x::p,z::v,hp=>by
  have ih:=evN_scl hc p v (fun x hx=>hp x (List.mem_cons_of_mem _ hx));have hx:=hp x (List.mem_cons_self ..);show gmN wb (gmul wb x c).toNat z^^^evN wb (List.zipWith (fun x _=>gmul wb x c) p p) v=gmN wb c.toNat (gmN wb x.toNat z^^^evN wb p v);rw [ih,d5z hx hc,gmN_xr hw,gmN_comm hw (bXz hw hx) (bXz hw hc),gmN_asc hw (bXz hw hc) (bXz hw hx)]
theorem evN_off: ∀(r:List Int) (v:List Nat),(∀j,j<v.length->r.getD j 0=0\/v.getD j 0=0)->evN wb r v=0
 | [],v,_=>rfl
 |x::r, [],_=>rfl
 |x::r,y::v,h=>by
  have ih:=evN_off r v (fun j hj=>by simpa using h (j+1) (by simpa using hj));have h0:=h 0 (by simp);show gmN wb x.toNat y^^^evN wb r v=0;rw [ih];rcases h0 with h0|h0
  ·have:x=0:=by simpa using h0
   rw [this];simp [gmN_zl hw]
  ·have:y=0:=by simpa using h0
   rw [this];simp [cXz hw]
theorem evN_two: ∀(r:List Int) (v:List Nat) (i c:Nat),i<c->c<v.length->r.getD i 0=1->v.getD c 0=1->(v.getD i 0=(r.getD c 0).toNat)->(0<=r.getD c 0/\r.getD c 0<fsize wb)->(∀j,j<v.length->j≠i->j≠c->r.getD j 0=0\/v.getD j 0=0)->evN wb r v=0
 | [],v,i,c,_,_,h1,_,_,_,_=>by simp at h1
 |x::r, [],i,c,_,h,_,_,_,_,_=>by simp at h
 |x::r,y::v,0,c+1,_,hc,h1,h2,h3,h4,h=>by
  have e1:x=1:=by simpa using h1
  have e2:v.getD c 0=1:=by simpa using h2
  have e3:y=(r.getD c 0).toNat:=by simpa using h3
  have e4:0<=r.getD c 0/\r.getD c 0<fsize wb:=by simpa using h4
  have hlt:=bXz hw e4;show gmN wb x.toNat y^^^evN wb r v=0
  have key: ∀(r:List Int) (v:List Nat) (c:Nat),c<v.length->v.getD c 0=1->(0<=r.getD c 0/\r.getD c 0<fsize wb)->(∀j,j<v.length->j≠c->r.getD j 0=0\/v.getD j 0=0)->evN wb r v=(r.getD c 0).toNat:=by
   intro r
   induction r with
   |nil=>intro v c _ _ _ _;simp [evN]
   |cons x r ih=>
    intro v c hc h1 h2 h
    cases v with
    |nil=>simp at hc
    |cons y v=>
     cases c with
     |zero=>
      have:=evN_off hw r v (fun j hj=>by simpa using h (j+1) (by simpa using hj) (by omega));have hy:y=1:=by simpa using h1
      have hx:0<=x/\x<fsize wb:=by simpa using h2
      show gmN wb x.toNat y^^^evN wb r v=_;rw [this,hy,gmN_id hw (bXz hw hx),Nat.xor_zero];simp
     |succ c=>
      have ih:=ih v c (by simpa using hc) (by simpa using h1) (by simpa using h2) (fun j hj hne=>by simpa using h (j+1) (by simpa using hj) (by omega));have h0:=h 0 (by simp) (by omega);show gmN wb x.toNat y^^^evN wb r v=_;rw [ih];rcases h0 with h0|h0
      ·have:x=0:=by simpa using h0
       rw [this];show gmN wb 0 y^^^_=_;rw [gmN_zl hw,Nat.zero_xor];simp
      ·have:y=0:=by simpa using h0
       rw [this,cXz hw,Nat.zero_xor];simp
  rw [key r v c (by simpa using hc) e2 e4 (fun j hj hne=>by simpa using h (j+1) (by simpa using hj) (by omega) (by omega)),e1,e3];show gmN wb 1 _^^^_=0;rw [gmN_idl hw hlt,Nat.xor_self]
 |x::r,y::v,i+1,c+1,hic,hc,h1,h2,h3,h4,h=>by
  have ih:=evN_two r v i c (by omega) (by simpa using hc) (by simpa using h1) (by simpa using h2) (by simpa using h3) (by simpa using h4) (fun j hj hne hnc=>by simpa using h (j+1) (by simpa using hj) (by omega) (by omega));have h0:=h 0 (by simp) (by omega) (by omega);show gmN wb x.toNat y^^^evN wb r v=0;rw [ih];rcases h0 with h0|h0
  ·have:x=0:=by simpa using h0
   rw [this];show gmN wb 0 y^^^_=_;rw [gmN_zl hw,Nat.zero_xor]
  ·have:y=0:=by simpa using h0
   rw [this,cXz hw,Nat.zero_xor]
 |x::r,y::v,i,0,hic,_,_,_,_,_,_=>by omega
end
theorem idxF_at' {α:Type} (p:α->Bool): ∀(l:List α), ¬idxF p l<0-> ∃x,l[(idxF p l).toNat]?=some x/\p x=true
 | [],h=>by simp [idxF] at h
 |y::l,h=>by
  have h1:=dwz p l;unfold idxF at h|-;by_cases hp:p y=true
  ·rw [if_pos hp];exact ⟨y,by simp,hp⟩
  ·rw [if_neg hp] at h|-;by_cases hn:idxF p l<0
   ·rw [if_pos hn] at h;omega
   ·rw [if_neg hn];obtain ⟨x,hx,hpx⟩:=idxF_at' p l hn;refine ⟨x,?_,hpx⟩;rw [show (idxF p l+1).toNat=(idxF p l).toNat+1 by omega,List.getElem?_cons_succ];exact hx
theorem evN_lt {wb:Int} (hw:wb=8\/wb=16): ∀(r:List Int) (v:List Nat),(∀x,x∈r->0<=x/\x<fsize wb)->evN wb r v<fN wb
 | [],_,_=>by have:=one_ltN hw;simp only [evN];omega
 |_::_, [],_=>by have:=one_ltN hw;simp only [evN];omega
 |x::r,y::v,h=>xor_ltN hw (gmN_ltN hw _ (bXz hw (h x (List.mem_cons_self ..)))) (evN_lt hw r v (fun z hz=>h z (List.mem_cons_of_mem _ hz)))
structure RI (wb:Int) (n:Nat) (u b:List Nat) (c:Nat) (W:List (List Int)):Prop where
 len:W.length=n
 good: ∀r,r∈W->Good wb (n+n) r
 zero: ∀r,r∈W->evN wb r (u++b)=0
 unit: ∀i r,W[i]?=some r-> ∀j,j<c->r.getD j 0=if i=j then 1 else 0
 inj: ∀v:List Nat,v.length=n->(∀x,x∈v->x<fN wb)->(∀r,r∈W->evN wb r v=0)-> ∀x,x∈v->x=0
theorem cNz {wb:Int} {L:Nat} {r:List Int} (h:Good wb L r) (j:Nat):0<=r.getD j 0/\r.getD j 0<fsize wb:=by
 rw [List.getD_eq_getElem?_getD]
 cases e:r[j]? with
 |none=>exact ⟨Int.le_refl _,by show (0:Int)<_;unfold fsize;split<;>omega⟩
 |some x=>exact h.2 x (List.mem_of_getElem? e)
theorem getD_zip (f:Int->Int->Int) (hf:f 0 0=0): ∀(r p:List Int) (j:Nat),r.length=p.length->(List.zipWith f r p).getD j 0=f (r.getD j 0) (p.getD j 0)
 | [], [],j,_=>by simp [hf]
 | [],_::_,_,h=>by simp at h
 |_::_, [],_,h=>by simp at h
 |x::r,y::p,0,_=>by simp
 |x::r,y::p,j+1,h=>by simpa using getD_zip f hf r p j (by simpa using h)
theorem emz {a b:Int} (ha:0<=a) (hb:0<=b) (h:a.toNat=b.toNat):a=b:=by omega
section
variable {wb : Int} (hw : wb = 8 \/ wb = 16)
include hw
theorem RI.pivot {n c:Nat} {u b:List Nat} {W:List (List Int)} (h:RI wb n u b c W) (hc:c<n): ¬idxF (nzB c) (W.drop c)<0:=by
 intro hneg;have hany:=(dwz (nzB c) (W.drop c)).2.2.1 hneg
 have hz: ∀i r,W[i]?=some r->c<=i->r.getD c 0=0:=by
  intro i r hr hi;have h1:=List.any_eq_false.1 hany r (List.mem_iff_getElem?.2 ⟨i - c,by rw [List.getElem?_drop,show c+(i - c)=i by omega];exact hr⟩)
  simpa [nzB] using h1
 obtain ⟨v,hv⟩: ∃v:List Nat,v=(List.range n).map (fun j=>if j<c then ((W.getD j []).getD c 0).toNat else if j=c then 1 else 0):=⟨_,rfl⟩;have vlen:v.length=n:=by rw [hv];simp
 have vat: ∀j,j<n->v.getD j 0=if j<c then ((W.getD j []).getD c 0).toNat else if j=c then 1 else 0:=by
  intro j hj;rw [hv,List.getD_eq_getElem?_getD];simp [hj]
 have hin: ∀x,x∈v->x<fN wb:=by
  intro x hx;rw [hv] at hx;obtain ⟨j,hj,rfl⟩:=List.mem_map.1 hx;have hj:j<n:=by simpa using hj
  have p1:=one_ltN hw;split
  ·obtain ⟨r,hr⟩: ∃r,W[j]?=some r:=⟨_,List.getElem?_eq_getElem (by rw [h.len];exact hj)⟩;have hWr:W.getD j [] =r:=by rw [List.getD_eq_getElem?_getD,hr];rfl
   rw [hWr];exact bXz hw (cNz (h.good r (List.mem_of_getElem? hr)) c)
  ·split<;>omega
 have hall:=h.inj v vlen hin (by
  intro r hr;obtain ⟨i,hi⟩:=List.mem_iff_getElem?.1 hr;have hil:=(List.getElem?_eq_some_iff.1 hi).1;rw [h.len] at hil;by_cases hic:i<c
  ·refine evN_two hw r v i c hic (by omega) (by rw [h.unit i r hi i hic, if_pos rfl]) (by rw [vat c hc, if_neg (Nat.lt_irrefl _), if_pos rfl]) (by
    have hWr:W.getD i [] =r:=by rw [List.getD_eq_getElem?_getD,hi];rfl
    rw [vat i hil,if_pos hic,hWr]) (cNz (h.good r hr) c) ?_
   intro j hj hji hjc;by_cases hjl:j<c
   ·exact .inl (by rw [h.unit i r hi j hjl,if_neg (Ne.symm hji)])
   ·exact .inr (by rw [vat j (by omega),if_neg hjl,if_neg hjc])
  ·refine evN_off hw r v ?_;intro j hj;by_cases hjl:j<c
   ·exact .inl (by rw [h.unit i r hi j hjl,if_neg (by omega)])
   ·by_cases hjc:j=c
    ·exact .inl (by rw [hjc];exact hz i r hi (by omega))
    ·exact .inr (by rw [vat j (by omega),if_neg hjl,if_neg hjc]))
 have h1:v.getD c 0=1:=by rw [vat c hc,if_neg (Nat.lt_irrefl _),if_pos rfl]
 have h2:v.getD c 0=0:=by
  rw [List.getD_eq_getElem?_getD,List.getElem?_eq_getElem (by omega)];exact hall _ (List.getElem_mem _)
 omega
theorem RI.step {n c:Nat} {u b:List Nat} {W:List (List Int)} (h:RI wb n u b c W) (hc:c<n):RI wb n u b (c+1) (redStep wb c W c).1/\(redStep wb c W c).2=c+1:=by
 have hp:=h.pivot hw hc;have hg:=eZz hw (n+n) c W c h.good;revert hg;unfold redStep;have hat:=idxF_at' (nzB c) (W.drop c) hp;have hz:=dwz (nzB c) (W.drop c)
 generalize idxF (nzB c) (W.drop c)=z at *
 dsimp only;rw [if_neg hp];obtain ⟨pr,hpr,hnz⟩:=hat;rw [List.getElem?_drop] at hpr;obtain ⟨k,hk⟩: ∃k,c+z.toNat=k:=⟨_,rfl⟩;rw [hk] at hpr|-;have hkc:c<=k:=by omega
 obtain ⟨q,hq⟩: ∃q,W[c]?=some q:=⟨_,List.getElem?_eq_getElem (by rw [h.len];exact hc)⟩;have hsw:=c6z W c k q pr hq hpr;have hsl:=c5z W c k;have hsm:=swapL_mem W c k
 generalize swapL W c k=R at *
 have hRc:R[c]?=some pr:=by
  rw [hsw];by_cases hck:c=k
  ·rw [if_pos hck];subst hck;rw [<-hq,hpr]
  ·rw [if_neg hck,if_pos rfl]
 have hRcD:R.getD c [] =pr:=by rw [List.getD_eq_getElem?_getD,hRc];rfl
 rw [hRcD];have hgp:=h.good pr (List.mem_of_getElem? hpr);have hpc:=cNz hgp c;have hpc0:pr.getD c 0≠0:=by simpa [nzB] using hnz
 obtain ⟨a,ha⟩: ∃a:Nat,pr.getD c 0=(a:Int):=⟨(pr.getD c 0).toNat,by omega⟩;have haN:a<fN wb:=by have:=bXz hw hpc;rw [ha] at this;simpa using this
 have hir:=eMz hw (pr.getD c 0);have hinv:=gmN_inv hw haN (by omega);rw [<-ha] at hinv;obtain ⟨i,hi⟩: ∃i,ginv wb (pr.getD c 0)=i:=⟨_,rfl⟩;rw [hi] at hir hinv|-;have hiN:=bXz hw hir;obtain ⟨p2,hp2⟩: ∃p2,List.zipWith (fun x _=>gmul wb x i) pr pr=p2:=⟨_,rfl⟩;have e2: ∀v,evN wb p2 v=gmN wb i.toNat (evN wb pr v):=fun v=>by rw [<-hp2];exact evN_scl hw hir pr v hgp.2
 have d2: ∀j,p2.getD j 0=gmul wb (pr.getD j 0) i:=fun j=>by rw [<-hp2];exact getD_zip (fun x _=>gmul wb x i) (dNz _ _) pr pr j rfl
 have hgp2:Good wb (n+n) p2:=by rw [<-hp2];exact zip_good _ hgp hgp (fun x y _ _=>bHz hw _ _)
 rw [hp2];have hset: ∀i,i≠c->(R.set c p2)[i]?=R[i]?:=fun i hi=>by rw [List.getElem?_set_ne (Ne.symm hi)]
 have hsetc:(R.set c p2)[c]?=some p2:=by rw [List.getElem?_set_self (by rw [hsl,h.len];exact hc)]
 have new: ∀i r,(clrAll wb c c p2 (R.set c p2))[i]?=some r->(i=c/\r=p2)\/(i≠c/\ ∃r0,R[i]?=some r0/\r=List.zipWith (clrF wb (r0.getD c 0)) r0 p2):=by
  intro i r hr;by_cases hic:i=c
  ·subst hic;rw [c7z _ _ _ _ _ _ p2 hsetc,if_pos rfl] at hr;exact .inl ⟨rfl,by injection hr with e;exact e.symm⟩
  ·obtain ⟨r0,hr0⟩: ∃r0,R[i]?=some r0:=⟨_,List.getElem?_eq_getElem (by have:=(List.getElem?_eq_some_iff.1 hr).1;rw [cez,List.length_set] at this;exact this)⟩;rw [c7z _ _ _ _ _ _ r0 (by rw [hset i hic];exact hr0),if_neg hic] at hr;exact .inr ⟨hic,r0,hr0,by injection hr with e;exact e.symm⟩
 have old: ∀i r0,R[i]?=some r0->i≠c->List.zipWith (clrF wb (r0.getD c 0)) r0 p2∈clrAll wb c c p2 (R.set c p2):=by
  intro i r0 hr0 hic;refine List.mem_iff_getElem?.2 ⟨i,?_⟩;rw [c7z _ _ _ _ _ _ r0 (by rw [hset i hic];exact hr0),if_neg hic]
 have oldc:p2∈clrAll wb c c p2 (R.set c p2):=by
  refine List.mem_iff_getElem?.2 ⟨c,?_⟩;rw [c7z _ _ _ _ _ _ p2 hsetc,if_pos rfl]
 have goodR: ∀i r0,R[i]?=some r0->Good wb (n+n) r0:=fun i r0 hr0=>h.good r0 (hsm r0 (List.mem_of_getElem? hr0))
 have eclr: ∀(i:Nat) (r0:List Int) (v:List Nat),R[i]?=some r0->evN wb (List.zipWith (clrF wb (r0.getD c 0)) r0 p2) v=evN wb r0 v^^^gmN wb (r0.getD c 0).toNat (evN wb p2 v):=by
  intro i r0 v hr0;have hg0:=goodR i r0 hr0;exact evN_clr hw (cNz hg0 c) r0 p2 v (hg0.1.trans hgp2.1.symm) hg0.2 hgp2.2
 have prz: ∀j,j<c->pr.getD j 0=0:=fun j hj=>by rw [h.unit k pr hpr j hj,if_neg (by omega)]
 have p2z: ∀j,j<c->p2.getD j 0=0:=fun j hj=>by rw [d2,prz j hj,dNz]
 have p2c:p2.getD c 0=1:=by
  refine emz (cNz hgp2 c).1 (by omega) ?_;rw [d2,d5z hpc hir,ha]
  simpa using hinv
 have Runit: ∀i r0,R[i]?=some r0->i≠c-> ∀j,j<c->r0.getD j 0=if i=j then 1 else 0:=by
  intro i r0 hr0 hic j hj;rw [hsw] at hr0;by_cases hik:i=k
  ·rw [if_pos hik] at hr0;injection hr0 with e
   subst e;rw [h.unit c q hq j hj,if_neg (by omega),if_neg (by omega)]
  ·rw [if_neg hik,if_neg hic] at hr0;exact h.unit i r0 hr0 j hj
 have Rall: ∀r,r∈W->r=pr\/ ∃i,i≠c/\R[i]?=some r:=by
  intro r hr;obtain ⟨i,hi⟩:=List.mem_iff_getElem?.1 hr;by_cases hik:i=k
  ·subst hik;rw [hpr] at hi;injection hi with e;exact .inl e.symm
  ·by_cases hic:i=c
   ·rw [hic,hq] at hi;injection hi with e
    subst e;exact .inr ⟨k,fun e=>hik (hic.trans e.symm),by rw [hsw,if_pos rfl]⟩
   ·exact .inr ⟨i,hic,by rw [hsw,if_neg hik,if_neg hic];exact hi⟩
 intro hg;refine ⟨⟨hg.2.trans h.len,hg.1,?_,?_,?_⟩,rfl⟩
 ·intro r hr;obtain ⟨i,hi⟩:=List.mem_iff_getElem?.1 hr;have z2:evN wb p2 (u++b)=0:=by rw [e2,h.zero pr (List.mem_of_getElem? hpr),cXz hw]
  rcases new i r hi with ⟨-,rfl⟩|⟨-,r0,hr0,rfl⟩
  ·exact z2
  ·rw [eclr i r0 _ hr0,z2,cXz hw,h.zero r0 (hsm r0 (List.mem_of_getElem? hr0))];rfl
 ·intro i r hr j hj;rcases new i r hr with ⟨rfl,rfl⟩|⟨hic,r0,hr0,rfl⟩
  ·by_cases hji:j=i
   ·subst hji;rw [p2c,if_pos rfl]
   ·rw [p2z j (by omega),if_neg (fun e=>hji e.symm)]
  ·have hg0:=goodR i r0 hr0;have hc0:=cNz hg0 c;rw [getD_zip _ (by unfold clrF;rw [eqz];rfl) r0 p2 j (hg0.1.trans hgp2.1.symm)];have hd:=cNz hg0 j;have hd2:=cNz hgp2 j
   have key:(clrF wb (r0.getD c 0) (r0.getD j 0) (p2.getD j 0)).toNat=(r0.getD j 0).toNat^^^gmN wb (r0.getD c 0).toNat (p2.getD j 0).toNat:=by
    unfold clrF;rw [bx_toNat hw hd (bHz hw _ _),d5z hc0 hd2]
   have hrng:0<=clrF wb (r0.getD c 0) (r0.getD j 0) (p2.getD j 0):=by unfold clrF;exact (evz hw hd (bHz hw _ _)).1
   by_cases hjc:j=c
   ·subst hjc;rw [if_neg hic];refine emz hrng (by omega) ?_;rw [key,p2c];show _^^^gmN wb _ 1=0;rw [gmN_id hw (bXz hw hd),Nat.xor_self]
   ·have hjl:j<c:=by omega
    refine emz hrng (by split<;>omega) ?_;rw [key,p2z j hjl];show _^^^gmN wb _ 0=_;rw [cXz hw,Nat.xor_zero,Runit i r0 hr0 hic j hjl]
 ·intro v hv hin hz0;refine h.inj v hv hin ?_;have z2:evN wb p2 v=0:=hz0 p2 oldc;intro r hr;rcases Rall r hr with rfl|⟨i,hic,hi⟩
  ·have h1:gmN wb a (evN wb p2 v)=0:=by rw [z2,cXz hw]
   have e3:gmN wb a i.toNat=1:=hinv;rw [e2, <-gmN_asc hw haN hiN,e3] at h1;rwa [gmN_idl hw (evN_lt hw r v hgp.2)] at h1
  ·have h1:=hz0 _ (old i r hi hic);rw [eclr i r v hi,z2,cXz hw,Nat.xor_zero] at h1;exact h1
theorem RI.all {n:Nat} {u b:List Nat} : ∀(m c:Nat) (W:List (List Int)),RI wb n u b c W->c+m=n->RI wb n u b n (redF wb m c W c).1/\(redF wb m c W c).2=n
 |0,c,W,h,e=>by
  have:c=n:=by omega
  subst this;exact ⟨h,rfl⟩
 |m+1,c,W,h,e=>by
  have hs:=h.step hw (by omega);unfold redF;rw [if_neg (by rw [h.len];omega),hs.2];exact RI.all m (c+1) _ hs.1 (by omega)
end
end Go.Proofs.Xc
end
section
namespace Go.Proofs.Xc
open Go.RowKit Go.Proofs.Pw Go.Proofs.Pl Go.Proofs.Pm
attribute [local go_sem] a9z baz bkz blz a2z a3z bbz bcz
theorem cxz {wb:Int} (hw:wb=8\/wb=16) {a v:Nat} (ha:a<fN wb) (hv:v<fN wb) (h0:a≠0) (h:gmN wb a v=1):ginv wb (a:Int)=(v:Int):=by
 have hr:=eMz hw (a:Int);obtain ⟨i,hi⟩: ∃i:Nat,ginv wb (a:Int)=(i:Int):=⟨(ginv wb (a:Int)).toNat,by omega⟩;have h1:=gmN_inv hw ha h0;rw [hi,Int.toNat_natCast] at h1;have hil:i<fN wb:=by have:=bXz hw hr;rw [hi] at this;simpa using this
 have h2:gmN wb v (gmN wb a i)=v:=by rw [h1,gmN_id hw hv]
 rw [<-gmN_asc hw hv ha,gmN_comm hw hv ha,h,gmN_idl hw hil] at h2;rw [hi,h2]
theorem g16_2:ginv 16 2=34821:=cxz (.inr rfl) (a:=2) (v:=34821) (by decide) (by decide) (by decide) (by decide+kernel)
theorem g16_3:ginv 16 3=61446:=cxz (.inr rfl) (a:=3) (v:=61446) (by decide) (by decide) (by decide) (by decide+kernel)
theorem g16_4:ginv 16 4=52231:=cxz (.inr rfl) (a:=4) (v:=52231) (by decide) (by decide) (by decide) (by decide+kernel)
def awake16.b:List Int:= [97,98,99,100,101,102,103,104,105,106,107,108,109,110,111,112,113,114,115,116,117,118,119,120]
def awake16.l:List (List Int):= [[97,98,99,100,101,102,103,104], [105,106,107,108,109,110,111,112], [113,114,115,116,117,118,119,120], [121,122,123,124,125,126,127,96], [0,0,0,0,0,0,0,235]]
theorem dQz (i:Nat) {S:Nat} {q:Int} {K M:Nat} {L:List (List Int)} (h:((parV S q K M (L.take K))[i]?==(L.drop K)[i]?)=false):verB S q K M L=false:=by
 unfold verB;refine decide_eq_false (fun he=> ?_);rw [he] at h;simp at h
theorem parV_0 (S:Nat) (q:Int) (K M:Nat) (data:List (List Int)) (c:List Int) (h:(parM q K M)[0]?=some c):(parV S q K M data)[0]?=some (dotV S (pbits q) c data):=by
 unfold parV;rw [List.getElem?_map,h];rfl
theorem awake16.m2:(parM 2 3 2)[0]?=some [34821,61446,52231] :=by
 have h:(parM 2 3 2)[0]?=some [ginv 16 2,ginv 16 3,ginv 16 4] :=rfl;rw [h,g16_2,g16_3,g16_4]
theorem awake16.m3:(parM 2 2 3)[0]?=some [61446,52231] :=by
 have h:(parM 2 2 3)[0]?=some [ginv 16 3,ginv 16 4] :=rfl;rw [h,g16_3,g16_4]
theorem awake16.v2:verB 8 2 3 2 awake16.l=false:=dQz 0 (by rw [parV_0 8 2 3 2 _ _ awake16.m2];kernel_rfl)
theorem awake16.v3:verB 8 2 2 3 awake16.l=false:=dQz 0 (by rw [parV_0 8 2 2 3 _ _ awake16.m3];kernel_rfl)
theorem awake16.p1:passB 8 1 3 2 awake16.l=true:=by kernel_rfl
theorem awake16.p5:verB 8 5 3 2 awake16.l=false:=dQz 1 kr_
theorem awake16.p6:verB 8 6 3 2 awake16.l=false:=dQz 1 kr_
theorem awake16.q1:verB 8 1 2 3 awake16.l=false:=dQz 0 kr_
theorem awake16.q5:verB 8 5 2 3 awake16.l=false:=dQz 0 kr_
theorem awake16.q6:verB 8 6 2 3 awake16.l=false:=dQz 0 kr_
theorem dqz {S:Nat} {q:Int} {K M:Nat} {L:List (List Int)} (h:verB S q K M L=false):passB S q K M L=false:=by
 unfold passB;rw [h,Bool.and_false,Bool.and_false]
theorem awake16.len: ∀r,r∈awake16.l->r.length=8:=by decide
theorem awake16.t3:Ev (fun k=>bSz.f k awake16.l 3) [1] :=by
 have h:=trial_ev2 3 2 8 awake16.l rfl (by decide) (by decide) awake16.len (by decide)
 have e:(all6.filter fun q=>passB 8 q 3 2 awake16.l)= [1] :=by
  unfold all6;simp only [List.filter_cons,awake16.p1,dqz awake16.v2,dqz awake16.p5,dqz awake16.p6,show passB 8 3 3 2 awake16.l=false from rfl,show passB 8 4 3 2 awake16.l=false from rfl,List.filter_nil];rfl
 rw [e] at h;exact h
theorem awake16.t2:Ev (fun k=>bSz.f k awake16.l 2) [] :=by
 have h:=trial_ev2 2 3 8 awake16.l rfl (by decide) (by decide) awake16.len (by decide)
 have e:(all6.filter fun q=>passB 8 q 2 3 awake16.l)= [] :=by
  unfold all6;simp only [List.filter_cons,dqz awake16.q1,dqz awake16.v3,dqz awake16.q5,dqz awake16.q6,show passB 8 3 2 3 awake16.l=false from rfl,show passB 8 4 2 3 awake16.l=false from rfl,List.filter_nil];rfl
 rw [e] at h;exact h
theorem awake16.t1:Ev (fun k=>bSz.f k [[97], [97]] 1) [5,6] :=by
 have h:=trial_ev2 1 1 1 [[97], [97]] rfl (by decide) (by decide) (by decide) (by decide)
 have e:(all6.filter fun q=>passB 1 q 1 1 [[97], [97]])= [5,6] :=by
  unfold all6;simp only [List.filter_cons,show passB 1 1 1 1 [[97], [97]] =false from rfl,show passB 1 2 1 1 [[97], [97]] =false from rfl,show passB 1 3 1 1 [[97], [97]] =false from rfl,show passB 1 4 1 1 [[97], [97]] =false from rfl,show passB 1 5 1 1 [[97], [97]] =true by kernel_rfl,show passB 1 6 1 1 [[97], [97]] =true by kernel_rfl,List.filter_nil];rfl
 rw [e] at h;exact h
theorem awake16.k3:Ev (fun k=>trial_Pick.f k awake16.l 3) (1,0):=Ev.bind awake16.t3 (Ev.congr (fun _=>rfl) (Ev.now _))
theorem awake16.k1:Ev (fun k=>trial_Pick.f k [[97], [97]] 1) (0,6):=Ev.bind awake16.t1 (Ev.congr (fun _=>rfl) (Ev.now _))
theorem awake16.enc:cSz.f 199 1 3 2 awake16.b=some (awake16.l,0):=by kernel_rfl
theorem i16_1:ginv 16 1=1:=cxz (.inr rfl) (a:=1) (v:=1) (by decide) (by decide) (by decide) (by decide+kernel)
theorem i16_2:ginv 16 2=34821:=cxz (.inr rfl) (a:=2) (v:=34821) (by decide) (by decide) (by decide) (by decide+kernel)
theorem i16_3:ginv 16 3=61446:=cxz (.inr rfl) (a:=3) (v:=61446) (by decide) (by decide) (by decide) (by decide+kernel)
theorem i16_4:ginv 16 4=52231:=cxz (.inr rfl) (a:=4) (v:=52231) (by decide) (by decide) (by decide) (by decide+kernel)
theorem i16_5:ginv 16 5=20482:=cxz (.inr rfl) (a:=5) (v:=20482) (by decide) (by decide) (by decide) (by decide+kernel)
theorem i16_6:ginv 16 6=30723:=cxz (.inr rfl) (a:=6) (v:=30723) (by decide) (by decide) (by decide) (by decide+kernel)
theorem i16_7:ginv 16 7=27502:=cxz (.inr rfl) (a:=7) (v:=27502) (by decide) (by decide) (by decide) (by decide+kernel)
theorem i16_8:ginv 16 8=60934:=cxz (.inr rfl) (a:=8) (v:=60934) (by decide) (by decide) (by decide) (by decide+kernel)
theorem i16_9:ginv 16 9=9946:=cxz (.inr rfl) (a:=9) (v:=9946) (by decide) (by decide) (by decide) (by decide+kernel)
theorem i16_10:ginv 16 10=10241:=cxz (.inr rfl) (a:=10) (v:=10241) (by decide) (by decide) (by decide) (by decide+kernel)
theorem i16_11:ginv 16 11=60305:=cxz (.inr rfl) (a:=11) (v:=60305) (by decide) (by decide) (by decide) (by decide+kernel)
def gtab:Int->Int:=fun x=>if x=1 then 1 else if x=2 then 34821 else if x=3 then 61446 else if x=4 then 52231 else if x=5 then 20482 else if x=6 then 30723 else if x=7 then 27502 else if x=8 then 60934 else if x=9 then 9946 else if x=10 then 10241 else if x=11 then 60305 else 0
theorem gtab_inv (x:Int) (h0:1<=x) (h1:x<12):ginv 16 x=gtab x:=by
 have h:x=1\/x=2\/x=3\/x=4\/x=5\/x=6\/x=7\/x=8\/x=9\/x=10\/x=11:=by omega
 rcases h with rfl|rfl|rfl|rfl|rfl|rfl|rfl|rfl|rfl|rfl|rfl
 ·exact i16_1
 ·exact i16_2
 ·exact i16_3
 ·exact i16_4
 ·exact i16_5
 ·exact i16_6
 ·exact i16_7
 ·exact i16_8
 ·exact i16_9
 ·exact i16_10
 ·exact i16_11
theorem xor_small: ∀m:Nat,m<5-> ∀a:Nat,a<m-> ∀b:Nat,b<8->1<=Go.bits .xor .i64 ((0+a:Nat):Int) ((m+b:Nat):Int)/\Go.bits .xor .i64 ((0+a:Nat):Int) ((m+b:Nat):Int)<12:=by decide+kernel
def tabM (k m:Nat):List (List Int):=(runL 0 m).map fun a=>(runL m k).map fun b=>gtab (Go.bits .xor .i64 a b)
theorem par2_tab (k m:Nat) (hk:k<9) (hm:m<5):parM 2 k m=tabM k m:=by
 show cauM 16 (runL 0 m) (runL m k)=tabM k m;unfold cauM tabM runL;refine List.map_congr_left (fun a ha=>List.map_congr_left (fun b hb=> ?_));obtain ⟨i,hi,rfl⟩:=List.mem_map.1 ha;obtain ⟨j,hj,rfl⟩:=List.mem_map.1 hb;have:=xor_small m hm i (by simpa using hi) j (by have:=List.mem_range.1 hj;omega);exact gtab_inv _ this.1 this.2
theorem rp2_1_1:asz.f 3000 16 69643 1 1=some (tabM 1 1,true):=by kernel_rfl
theorem rp2_1_2:asz.f 3000 16 69643 1 2=some (tabM 1 2,true):=by kernel_rfl
theorem rp2_1_3:asz.f 3000 16 69643 1 3=some (tabM 1 3,true):=by kernel_rfl
theorem rp2_1_4:asz.f 3000 16 69643 1 4=some (tabM 1 4,true):=by kernel_rfl
theorem rp2_2_1:asz.f 3000 16 69643 2 1=some (tabM 2 1,true):=by kernel_rfl
theorem rp2_2_2:asz.f 3000 16 69643 2 2=some (tabM 2 2,true):=by kernel_rfl
theorem rp2_2_3:asz.f 3000 16 69643 2 3=some (tabM 2 3,true):=by kernel_rfl
theorem rp2_2_4:asz.f 3000 16 69643 2 4=some (tabM 2 4,true):=by kernel_rfl
theorem rp2_3_1:asz.f 3000 16 69643 3 1=some (tabM 3 1,true):=by kernel_rfl
theorem rp2_3_2:asz.f 3000 16 69643 3 2=some (tabM 3 2,true):=by kernel_rfl
theorem rp2_3_3:asz.f 3000 16 69643 3 3=some (tabM 3 3,true):=by kernel_rfl
theorem rp2_3_4:asz.f 3000 16 69643 3 4=some (tabM 3 4,true):=by kernel_rfl
theorem rp2_4_1:asz.f 3000 16 69643 4 1=some (tabM 4 1,true):=by kernel_rfl
theorem rp2_4_2:asz.f 3000 16 69643 4 2=some (tabM 4 2,true):=by kernel_rfl
theorem rp2_4_3:asz.f 3000 16 69643 4 3=some (tabM 4 3,true):=by kernel_rfl
theorem rp2_4_4:asz.f 3000 16 69643 4 4=some (tabM 4 4,true):=by kernel_rfl
theorem rp2_5_1:asz.f 3000 16 69643 5 1=some (tabM 5 1,true):=by kernel_rfl
theorem rp2_5_2:asz.f 3000 16 69643 5 2=some (tabM 5 2,true):=by kernel_rfl
theorem rp2_5_3:asz.f 3000 16 69643 5 3=some (tabM 5 3,true):=by kernel_rfl
theorem rp2_5_4:asz.f 3000 16 69643 5 4=some (tabM 5 4,true):=by kernel_rfl
theorem rp2_6_1:asz.f 3000 16 69643 6 1=some (tabM 6 1,true):=by kernel_rfl
theorem rp2_6_2:asz.f 3000 16 69643 6 2=some (tabM 6 2,true):=by kernel_rfl
theorem rp2_6_3:asz.f 3000 16 69643 6 3=some (tabM 6 3,true):=by kernel_rfl
theorem rp2_6_4:asz.f 3000 16 69643 6 4=some (tabM 6 4,true):=by kernel_rfl
theorem rp2_7_1:asz.f 3000 16 69643 7 1=some (tabM 7 1,true):=by kernel_rfl
theorem rp2_7_2:asz.f 3000 16 69643 7 2=some (tabM 7 2,true):=by kernel_rfl
theorem rp2_7_3:asz.f 3000 16 69643 7 3=some (tabM 7 3,true):=by kernel_rfl
theorem rp2_7_4:asz.f 3000 16 69643 7 4=some (tabM 7 4,true):=by kernel_rfl
theorem rp2_8_1:asz.f 3000 16 69643 8 1=some (tabM 8 1,true):=by kernel_rfl
theorem rp2_8_2:asz.f 3000 16 69643 8 2=some (tabM 8 2,true):=by kernel_rfl
theorem rp2_8_3:asz.f 3000 16 69643 8 3=some (tabM 8 3,true):=by kernel_rfl
theorem rp2_8_4:asz.f 3000 16 69643 8 4=some (tabM 8 4,true):=by kernel_rfl
theorem rpar_2 (K M:Nat) (h1:1<=K) (h2:K<=8) (h3:1<=M) (h4:M<=4):asz.f 3000 16 69643 (K:Int) (M:Int)=some (tabM K M,true):=by
 have hk:K=1\/K=2\/K=3\/K=4\/K=5\/K=6\/K=7\/K=8:=by omega
 have hm:M=1\/M=2\/M=3\/M=4:=by omega
 rcases hk with rfl|rfl|rfl|rfl|rfl|rfl|rfl|rfl<;>rcases hm with rfl|rfl|rfl|rfl
 ·exact rp2_1_1
 ·exact rp2_1_2
 ·exact rp2_1_3
 ·exact rp2_1_4
 ·exact rp2_2_1
 ·exact rp2_2_2
 ·exact rp2_2_3
 ·exact rp2_2_4
 ·exact rp2_3_1
 ·exact rp2_3_2
 ·exact rp2_3_3
 ·exact rp2_3_4
 ·exact rp2_4_1
 ·exact rp2_4_2
 ·exact rp2_4_3
 ·exact rp2_4_4
 ·exact rp2_5_1
 ·exact rp2_5_2
 ·exact rp2_5_3
 ·exact rp2_5_4
 ·exact rp2_6_1
 ·exact rp2_6_2
 ·exact rp2_6_3
 ·exact rp2_6_4
 ·exact rp2_7_1
 ·exact rp2_7_2
 ·exact rp2_7_3
 ·exact rp2_7_4
 ·exact rp2_8_1
 ·exact rp2_8_2
 ·exact rp2_8_3
 ·exact rp2_8_4
theorem rp3_1_1:alz.f 3000 8 285 1 1=some (isalM 8 1 1,true):=by kernel_rfl
theorem rp3_1_2:alz.f 3000 8 285 1 2=some (isalM 8 2 1,true):=by kernel_rfl
theorem rp3_1_3:alz.f 3000 8 285 1 3=some (isalM 8 3 1,true):=by kernel_rfl
theorem rp3_2_1:alz.f 3000 8 285 2 1=some (isalM 8 1 2,true):=by kernel_rfl
theorem rp3_2_2:alz.f 3000 8 285 2 2=some (isalM 8 2 2,true):=by kernel_rfl
theorem rp3_2_3:alz.f 3000 8 285 2 3=some (isalM 8 3 2,true):=by kernel_rfl
theorem rp3_3_1:alz.f 3000 8 285 3 1=some (isalM 8 1 3,true):=by kernel_rfl
theorem rp3_3_2:alz.f 3000 8 285 3 2=some (isalM 8 2 3,true):=by kernel_rfl
theorem rp3_3_3:alz.f 3000 8 285 3 3=some (isalM 8 3 3,true):=by kernel_rfl
theorem rp3_4_1:alz.f 3000 8 285 4 1=some (isalM 8 1 4,true):=by kernel_rfl
theorem rp3_4_2:alz.f 3000 8 285 4 2=some (isalM 8 2 4,true):=by kernel_rfl
theorem rp3_4_3:alz.f 3000 8 285 4 3=some (isalM 8 3 4,true):=by kernel_rfl
theorem rp3_5_1:alz.f 3000 8 285 5 1=some (isalM 8 1 5,true):=by kernel_rfl
theorem rp3_5_2:alz.f 3000 8 285 5 2=some (isalM 8 2 5,true):=by kernel_rfl
theorem rp3_5_3:alz.f 3000 8 285 5 3=some (isalM 8 3 5,true):=by kernel_rfl
theorem rp3_6_1:alz.f 3000 8 285 6 1=some (isalM 8 1 6,true):=by kernel_rfl
theorem rp3_6_2:alz.f 3000 8 285 6 2=some (isalM 8 2 6,true):=by kernel_rfl
theorem rp3_6_3:alz.f 3000 8 285 6 3=some (isalM 8 3 6,true):=by kernel_rfl
theorem rp3_7_1:alz.f 3000 8 285 7 1=some (isalM 8 1 7,true):=by kernel_rfl
theorem rp3_7_2:alz.f 3000 8 285 7 2=some (isalM 8 2 7,true):=by kernel_rfl
theorem rp3_7_3:alz.f 3000 8 285 7 3=some (isalM 8 3 7,true):=by kernel_rfl
theorem rp3_8_1:alz.f 3000 8 285 8 1=some (isalM 8 1 8,true):=by kernel_rfl
theorem rp3_8_2:alz.f 3000 8 285 8 2=some (isalM 8 2 8,true):=by kernel_rfl
theorem rp3_8_3:alz.f 3000 8 285 8 3=some (isalM 8 3 8,true):=by kernel_rfl
theorem rpar_3 (K M:Nat) (h1:1<=K) (h2:K<=8) (h3:1<=M) (h4:M<=3):alz.f 3000 8 285 (K:Int) (M:Int)=some (isalM 8 M K,true):=by
 have hk:K=1\/K=2\/K=3\/K=4\/K=5\/K=6\/K=7\/K=8:=by omega
 have hm:M=1\/M=2\/M=3:=by omega
 rcases hk with rfl|rfl|rfl|rfl|rfl|rfl|rfl|rfl<;>rcases hm with rfl|rfl|rfl
 ·exact rp3_1_1
 ·exact rp3_1_2
 ·exact rp3_1_3
 ·exact rp3_2_1
 ·exact rp3_2_2
 ·exact rp3_2_3
 ·exact rp3_3_1
 ·exact rp3_3_2
 ·exact rp3_3_3
 ·exact rp3_4_1
 ·exact rp3_4_2
 ·exact rp3_4_3
 ·exact rp3_5_1
 ·exact rp3_5_2
 ·exact rp3_5_3
 ·exact rp3_6_1
 ·exact rp3_6_2
 ·exact rp3_6_3
 ·exact rp3_7_1
 ·exact rp3_7_2
 ·exact rp3_7_3
 ·exact rp3_8_1
 ·exact rp3_8_2
 ·exact rp3_8_3
theorem rp4_1_1:atz.f 3000 8 285 1 1=some (cauM 8 (runL 1 1) (runL 0 1),true):=by kernel_rfl
theorem rp4_1_2:atz.f 3000 8 285 1 2=some (cauM 8 (runL 1 2) (runL 0 1),true):=by kernel_rfl
theorem rp4_1_3:atz.f 3000 8 285 1 3=some (cauM 8 (runL 1 3) (runL 0 1),true):=by kernel_rfl
theorem rp4_1_4:atz.f 3000 8 285 1 4=some (cauM 8 (runL 1 4) (runL 0 1),true):=by kernel_rfl
theorem rp4_2_1:atz.f 3000 8 285 2 1=some (cauM 8 (runL 2 1) (runL 0 2),true):=by kernel_rfl
theorem rp4_2_2:atz.f 3000 8 285 2 2=some (cauM 8 (runL 2 2) (runL 0 2),true):=by kernel_rfl
theorem rp4_2_3:atz.f 3000 8 285 2 3=some (cauM 8 (runL 2 3) (runL 0 2),true):=by kernel_rfl
theorem rp4_2_4:atz.f 3000 8 285 2 4=some (cauM 8 (runL 2 4) (runL 0 2),true):=by kernel_rfl
theorem rp4_3_1:atz.f 3000 8 285 3 1=some (cauM 8 (runL 3 1) (runL 0 3),true):=by kernel_rfl
theorem rp4_3_2:atz.f 3000 8 285 3 2=some (cauM 8 (runL 3 2) (runL 0 3),true):=by kernel_rfl
theorem rp4_3_3:atz.f 3000 8 285 3 3=some (cauM 8 (runL 3 3) (runL 0 3),true):=by kernel_rfl
theorem rp4_3_4:atz.f 3000 8 285 3 4=some (cauM 8 (runL 3 4) (runL 0 3),true):=by kernel_rfl
theorem rp4_4_1:atz.f 3000 8 285 4 1=some (cauM 8 (runL 4 1) (runL 0 4),true):=by kernel_rfl
theorem rp4_4_2:atz.f 3000 8 285 4 2=some (cauM 8 (runL 4 2) (runL 0 4),true):=by kernel_rfl
theorem rp4_4_3:atz.f 3000 8 285 4 3=some (cauM 8 (runL 4 3) (runL 0 4),true):=by kernel_rfl
theorem rp4_4_4:atz.f 3000 8 285 4 4=some (cauM 8 (runL 4 4) (runL 0 4),true):=by kernel_rfl
theorem rp4_5_1:atz.f 3000 8 285 5 1=some (cauM 8 (runL 5 1) (runL 0 5),true):=by kernel_rfl
theorem rp4_5_2:atz.f 3000 8 285 5 2=some (cauM 8 (runL 5 2) (runL 0 5),true):=by kernel_rfl
theorem rp4_5_3:atz.f 3000 8 285 5 3=some (cauM 8 (runL 5 3) (runL 0 5),true):=by kernel_rfl
theorem rp4_5_4:atz.f 3000 8 285 5 4=some (cauM 8 (runL 5 4) (runL 0 5),true):=by kernel_rfl
theorem rp4_6_1:atz.f 3000 8 285 6 1=some (cauM 8 (runL 6 1) (runL 0 6),true):=by kernel_rfl
theorem rp4_6_2:atz.f 3000 8 285 6 2=some (cauM 8 (runL 6 2) (runL 0 6),true):=by kernel_rfl
theorem rp4_6_3:atz.f 3000 8 285 6 3=some (cauM 8 (runL 6 3) (runL 0 6),true):=by kernel_rfl
theorem rp4_6_4:atz.f 3000 8 285 6 4=some (cauM 8 (runL 6 4) (runL 0 6),true):=by kernel_rfl
theorem rp4_7_1:atz.f 3000 8 285 7 1=some (cauM 8 (runL 7 1) (runL 0 7),true):=by kernel_rfl
theorem rp4_7_2:atz.f 3000 8 285 7 2=some (cauM 8 (runL 7 2) (runL 0 7),true):=by kernel_rfl
theorem rp4_7_3:atz.f 3000 8 285 7 3=some (cauM 8 (runL 7 3) (runL 0 7),true):=by kernel_rfl
theorem rp4_7_4:atz.f 3000 8 285 7 4=some (cauM 8 (runL 7 4) (runL 0 7),true):=by kernel_rfl
theorem rp4_8_1:atz.f 3000 8 285 8 1=some (cauM 8 (runL 8 1) (runL 0 8),true):=by kernel_rfl
theorem rp4_8_2:atz.f 3000 8 285 8 2=some (cauM 8 (runL 8 2) (runL 0 8),true):=by kernel_rfl
theorem rp4_8_3:atz.f 3000 8 285 8 3=some (cauM 8 (runL 8 3) (runL 0 8),true):=by kernel_rfl
theorem rp4_8_4:atz.f 3000 8 285 8 4=some (cauM 8 (runL 8 4) (runL 0 8),true):=by kernel_rfl
theorem rpar_4 (K M:Nat) (h1:1<=K) (h2:K<=8) (h3:1<=M) (h4:M<=4):atz.f 3000 8 285 (K:Int) (M:Int)=some (cauM 8 (runL K M) (runL 0 K),true):=by
 have hk:K=1\/K=2\/K=3\/K=4\/K=5\/K=6\/K=7\/K=8:=by omega
 have hm:M=1\/M=2\/M=3\/M=4:=by omega
 rcases hk with rfl|rfl|rfl|rfl|rfl|rfl|rfl|rfl<;>rcases hm with rfl|rfl|rfl|rfl
 ·exact rp4_1_1
 ·exact rp4_1_2
 ·exact rp4_1_3
 ·exact rp4_1_4
 ·exact rp4_2_1
 ·exact rp4_2_2
 ·exact rp4_2_3
 ·exact rp4_2_4
 ·exact rp4_3_1
 ·exact rp4_3_2
 ·exact rp4_3_3
 ·exact rp4_3_4
 ·exact rp4_4_1
 ·exact rp4_4_2
 ·exact rp4_4_3
 ·exact rp4_4_4
 ·exact rp4_5_1
 ·exact rp4_5_2
 ·exact rp4_5_3
 ·exact rp4_5_4
 ·exact rp4_6_1
 ·exact rp4_6_2
 ·exact rp4_6_3
 ·exact rp4_6_4
 ·exact rp4_7_1
 ·exact rp4_7_2
 ·exact rp4_7_3
 ·exact rp4_7_4
 ·exact rp4_8_1
 ·exact rp4_8_2
 ·exact rp4_8_3
 ·exact rp4_8_4
theorem rp5_1_1:aqz.f 3000 8 285 1 1=some (sysM 8 1 1,true):=by kernel_rfl
theorem rp5_1_2:aqz.f 3000 8 285 1 2=some (sysM 8 1 2,true):=by kernel_rfl
theorem rp5_1_3:aqz.f 3000 8 285 1 3=some (sysM 8 1 3,true):=by kernel_rfl
theorem rp5_1_4:aqz.f 3000 8 285 1 4=some (sysM 8 1 4,true):=by kernel_rfl
theorem rp5_2_1:aqz.f 3000 8 285 2 1=some (sysM 8 2 1,true):=by kernel_rfl
theorem rp5_2_2:aqz.f 3000 8 285 2 2=some (sysM 8 2 2,true):=by kernel_rfl
theorem rp5_2_3:aqz.f 3000 8 285 2 3=some (sysM 8 2 3,true):=by kernel_rfl
theorem rp5_2_4:aqz.f 3000 8 285 2 4=some (sysM 8 2 4,true):=by kernel_rfl
theorem rp5_3_1:aqz.f 3000 8 285 3 1=some (sysM 8 3 1,true):=by kernel_rfl
theorem rp5_3_2:aqz.f 3000 8 285 3 2=some (sysM 8 3 2,true):=by kernel_rfl
theorem rp5_3_3:aqz.f 3000 8 285 3 3=some (sysM 8 3 3,true):=by kernel_rfl
theorem rp5_3_4:aqz.f 3000 8 285 3 4=some (sysM 8 3 4,true):=by kernel_rfl
theorem rp5_4_1:aqz.f 3000 8 285 4 1=some (sysM 8 4 1,true):=by kernel_rfl
theorem rp5_4_2:aqz.f 3000 8 285 4 2=some (sysM 8 4 2,true):=by kernel_rfl
theorem rp5_4_3:aqz.f 3000 8 285 4 3=some (sysM 8 4 3,true):=by kernel_rfl
theorem rp5_4_4:aqz.f 3000 8 285 4 4=some (sysM 8 4 4,true):=by kernel_rfl
theorem rp5_5_1:aqz.f 3000 8 285 5 1=some (sysM 8 5 1,true):=by kernel_rfl
theorem rp5_5_2:aqz.f 3000 8 285 5 2=some (sysM 8 5 2,true):=by kernel_rfl
theorem rp5_5_3:aqz.f 3000 8 285 5 3=some (sysM 8 5 3,true):=by kernel_rfl
theorem rp5_5_4:aqz.f 3000 8 285 5 4=some (sysM 8 5 4,true):=by kernel_rfl
theorem rp5_6_1:aqz.f 3000 8 285 6 1=some (sysM 8 6 1,true):=by kernel_rfl
theorem rp5_6_2:aqz.f 3000 8 285 6 2=some (sysM 8 6 2,true):=by kernel_rfl
theorem rp5_6_3:aqz.f 3000 8 285 6 3=some (sysM 8 6 3,true):=by kernel_rfl
theorem rp5_6_4:aqz.f 3000 8 285 6 4=some (sysM 8 6 4,true):=by kernel_rfl
theorem rp5_7_1:aqz.f 3000 8 285 7 1=some (sysM 8 7 1,true):=by kernel_rfl
theorem rp5_7_2:aqz.f 3000 8 285 7 2=some (sysM 8 7 2,true):=by kernel_rfl
theorem rp5_7_3:aqz.f 3000 8 285 7 3=some (sysM 8 7 3,true):=by kernel_rfl
theorem rp5_7_4:aqz.f 3000 8 285 7 4=some (sysM 8 7 4,true):=by kernel_rfl
theorem rp5_8_1:aqz.f 3000 8 285 8 1=some (sysM 8 8 1,true):=by kernel_rfl
theorem rp5_8_2:aqz.f 3000 8 285 8 2=some (sysM 8 8 2,true):=by kernel_rfl
theorem rp5_8_3:aqz.f 3000 8 285 8 3=some (sysM 8 8 3,true):=by kernel_rfl
theorem rp5_8_4:aqz.f 3000 8 285 8 4=some (sysM 8 8 4,true):=by kernel_rfl
theorem rpar_5 (K M:Nat) (h1:1<=K) (h2:K<=8) (h3:1<=M) (h4:M<=4):aqz.f 3000 8 285 (K:Int) (M:Int)=some (sysM 8 K M,true):=by
 have hk:K=1\/K=2\/K=3\/K=4\/K=5\/K=6\/K=7\/K=8:=by omega
 have hm:M=1\/M=2\/M=3\/M=4:=by omega
 rcases hk with rfl|rfl|rfl|rfl|rfl|rfl|rfl|rfl<;>rcases hm with rfl|rfl|rfl|rfl
 ·exact rp5_1_1
 ·exact rp5_1_2
 ·exact rp5_1_3
 ·exact rp5_1_4
 ·exact rp5_2_1
 ·exact rp5_2_2
 ·exact rp5_2_3
 ·exact rp5_2_4
 ·exact rp5_3_1
 ·exact rp5_3_2
 ·exact rp5_3_3
 ·exact rp5_3_4
 ·exact rp5_4_1
 ·exact rp5_4_2
 ·exact rp5_4_3
 ·exact rp5_4_4
 ·exact rp5_5_1
 ·exact rp5_5_2
 ·exact rp5_5_3
 ·exact rp5_5_4
 ·exact rp5_6_1
 ·exact rp5_6_2
 ·exact rp5_6_3
 ·exact rp5_6_4
 ·exact rp5_7_1
 ·exact rp5_7_2
 ·exact rp5_7_3
 ·exact rp5_7_4
 ·exact rp5_8_1
 ·exact rp5_8_2
 ·exact rp5_8_3
 ·exact rp5_8_4
end Go.Proofs.Xc
end
