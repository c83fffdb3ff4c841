-- Joined texts of this work (wip/tools/bundle.py).
import Derived.Lib.Bytes
import Derived.WideShapes
import Derived.ChangeSlices
import Derived.Test.YtpdakdcmahlghaaGreatBCodecParity20
section
namespace Go.Proofs.Xc
open Go.RowKit Go.Proofs.Pw Go.Proofs.Pl Go.Proofs.Pm
attribute [local go_sem] a9z baz bkz blz a2z a3z bbz bcz
set_option linter.unusedVariables false
set_option linter.unusedSimpArgs false
theorem rof_eq (q:Int):a0z.f q=bnz.f q:=by
 unfold a0z.f bnz.f;rfl
theorem dxz (q k m:Int):biz.f q k m=aJz.f q k m:=by
 unfold biz.f aJz.f;rw [rof_eq]
theorem may3 {k m:Int} (h:aJz.f 3 k m=some true):m<=3:=by
 have hm:=cJz h;unfold aJz.f at h;rw [show bnz.f 3=some ((⟨#[105,114]⟩:ByteArray),8,285,105,3,true) from rfl,Option.bind_some] at h;dsimp only at h;rw [if_pos rfl,if_pos (by omega),if_pos (by omega),if_pos (by omega)] at h;exact of_decide_eq_true (Option.some.inj h)
theorem rof_ev (q:Int) (h1:1<=q) (h2:q<=6): ∃(t:ByteArray) (l mm:Int),a0z.f q=some (t,pbits q,fpoly (pbits q),l,mm,true):=by
 have hq:q=1\/q=2\/q=3\/q=4\/q=5\/q=6:=by omega
 rcases hq with rfl|rfl|rfl|rfl|rfl|rfl<;>exact ⟨_,_,_,rfl⟩
theorem rpar_ev (q:Int) (K M:Nat) (hmay:aJz.f q (K:Int) (M:Int)=some true):Ev (fun k=>bqz.f k q (K:Int) (M:Int)) (parM q K M,true):=by
 obtain ⟨p1,p2,k1,k2,m1,m2⟩:=cJz hmay;have hgd:=dZz q K M (by omega) (by omega) (by omega) (by omega);have hq:q=1\/q=2\/q=3\/q=4\/q=5\/q=6:=by omega
 have hM3:q=3->M<=3:=fun e=>by rw [e] at hmay;have:=may3 hmay;omega
 refine Ev.of (fun k=>bqz.mono _ _ _ k) (k:=3000) ?_;unfold bqz.f;rw [dxz,hmay,Option.bind_some,if_pos rfl];rcases hq with rfl|rfl|rfl|rfl|rfl|rfl
 ·rw [show a0z.f 1=some ((⟨#[106,118]⟩:ByteArray),8,285,106,4,true) from rfl,Option.bind_some,if_pos rfl];dsimp only;rw [rpar_1 K M (by omega) (by omega) (by omega) (by omega),Option.bind_some];rfl
 ·rw [show a0z.f 2=some ((⟨#[106,99]⟩:ByteArray),16,69643,106,4,true) from rfl,Option.bind_some,if_neg (by decide),if_pos rfl];dsimp only;rw [rpar_2 K M (by omega) (by omega) (by omega) (by omega),Option.bind_some,par2_tab K M (by omega) (by omega)]
 ·rw [show a0z.f 3=some ((⟨#[105,114]⟩:ByteArray),8,285,105,3,true) from rfl,Option.bind_some,if_neg (by decide),if_neg (by decide),if_pos rfl];dsimp only;rw [rpar_3 K M (by omega) (by omega) (by omega) (hM3 rfl),Option.bind_some];rfl
 ·rw [show a0z.f 4=some ((⟨#[105,99]⟩:ByteArray),8,285,105,4,true) from rfl,Option.bind_some,if_neg (by decide),if_neg (by decide),if_neg (by decide),if_pos rfl];dsimp only;rw [rpar_4 K M (by omega) (by omega) (by omega) (by omega),Option.bind_some];rfl
 all_goals
  have hsy:((sysM 8 K M).drop K).length=M:=hgd.2;rw [List.length_drop] at hsy
 ·rw [show a0z.f 5=some ((⟨#[98,98]⟩:ByteArray),8,285,98,4,true) from rfl,Option.bind_some,if_neg (by decide),if_neg (by decide),if_neg (by decide),if_neg (by decide)];dsimp only;rw [rpar_5 K M (by omega) (by omega) (by omega) (by omega),Option.bind_some,if_pos (by omega),if_pos (by dsimp only;omega),Int.toNat_natCast];rfl
 ·rw [show a0z.f 6=some ((⟨#[107,112]⟩:ByteArray),8,285,112,4,true) from rfl,Option.bind_some,if_neg (by decide),if_neg (by decide),if_neg (by decide),if_neg (by decide)];dsimp only;rw [rpar_5 K M (by omega) (by omega) (by omega) (by omega),Option.bind_some,if_pos (by omega),if_pos (by dsimp only;omega),Int.toNat_natCast];rfl
def evenP (wb:Int) (L:Nat) (r:List Int):Bool:=r.length==L&&evB wb r
theorem rd1_at (l:List (List Int)) (i:Nat) (r:List Int) (h:l[i]?=some r):rd_L1 l (i:Int)=r:=by
 unfold rd_L1;rw [Int.toNat_natCast,List.getD_eq_getElem?_getD,h];rfl
theorem reven_l (wb : Int) (hw : wb = 8 \/ wb = 16) (L : Nat) (l : List (List Int)) (r0 : List Int) (h0 : l[0]? = some r0) (hL : r0.length = L) (hl : l.length <= 1000000) (hr : ∀ r, r ∈ l -> r.length <= 1000000) (t : ByteArray) (b c d : Int) :
  ∀(m i:Nat),i+m=l.length->Ev (fun k=>bez.l0 k l (i:Int) t wb b c d) ((l.drop i).all (evenP wb L)):=by
 intro m
 induction m with
 |zero=>
  intro i hi;refine Ev.step (f:=fun _=>some true) (fun k=> ?_) ?_
  ·rw [bez.l0,if_neg (by omega)]
  ·rw [List.drop_of_length_le (by omega)];exact Ev.now _
 |succ m ih=>
  intro i hi;obtain ⟨r,hri⟩: ∃r,l[i]?=some r:=⟨_,List.getElem?_eq_getElem (by omega)⟩;have hrl:=hr r (List.mem_of_getElem? hri);have h0':rd_L1 l 0=r0:=rd1_at l 0 r0 h0
  have hd:l.drop i=r::l.drop (i+1):=by
   rw [List.drop_eq_getElem_cons (by omega)];congr 1
   exact Option.some.inj ((List.getElem?_eq_getElem (by omega)).symm.trans hri)
  rw [hd,List.all_cons];by_cases c1:r.length=L
  ·by_cases c2:evB wb r=true
   ·rw [show evenP wb L r=true by unfold evenP;rw [c2,c1];simp,Bool.true_and];refine Ev.step (fun k=> ?_) (ih (i+1) (by omega))
    have c3:Int.tmod (8*(r.length:Int)) wb=0:=by
     rw [Int.tmod_eq_emod_of_nonneg (by omega)];unfold evB at c2;have c2:=eq_of_beq c2;rcases hw with rfl|rfl
     ·omega
     ·rw [show wN 16=2 from rfl] at c2;omega
    rw [bez.l0,if_pos (by omega),if_pos (by omega),if_pos (by omega),rd1_at l i r hri,h0',if_pos (by omega),if_neg (by omega),w64 (by omega) (by omega),if_pos c3,w64 (by omega) (by omega),show ((i:Int)+1)=((i+1:Nat):Int) by omega]
   ·rw [show evenP wb L r=false by unfold evenP;rw [Bool.eq_false_iff.2 c2];simp,Bool.false_and];refine Ev.step (f:=fun _=>some false) (fun k=> ?_) (Ev.now _)
    have c3: ¬Int.tmod (8*(r.length:Int)) wb=0:=by
     rw [Int.tmod_eq_emod_of_nonneg (by omega)];intro h;apply c2
     unfold evB;rcases hw with rfl|rfl
     ·rw [show wN 8=1 from rfl,Nat.mod_one];rfl
     ·rw [show wN 16=2 from rfl,beq_iff_eq];omega
    rw [bez.l0,if_pos (by omega),if_pos (by omega),if_pos (by omega),rd1_at l i r hri,h0',if_pos (by omega),if_neg (by omega),w64 (by omega) (by omega),if_neg c3]
  ·rw [show evenP wb L r=false by unfold evenP;rw [beq_eq_false_iff_ne.2 c1];simp,Bool.false_and];refine Ev.step (f:=fun _=>some false) (fun k=> ?_) (Ev.now _);rw [bez.l0,if_pos (by omega),if_pos (by omega),if_pos (by omega),rd1_at l i r hri,h0',if_neg (by omega)]
theorem reven_ev (q : Int) (h1 : 1 <= q) (h2 : q <= 6) (x y : Int) (l : List (List Int)) (L : Nat) (r0 : List Int) (h0 : l[0]? = some r0) (hL : r0.length = L) (hl : l.length <= 1000000) (hr : ∀ r, r ∈ l -> r.length <= 1000000) :
  Ev (fun k=>bez.f k q x y l) (l.all (evenP (pbits q) L)):=by
 obtain ⟨t,b,c,he⟩:=rof_ev q h1 h2;refine Ev.congr (fun k=> ?_) (reven_l (pbits q) (ehz q) L l r0 h0 hL hl hr t (fpoly (pbits q)) b c l.length 0 (by omega));unfold bez.f;rw [he,Option.bind_some];rfl
theorem rpar_l (q : Int) (K M L : Nat) (P : List (List Nat)) (hL : L <= 1000000) (hd : L % wN (pbits q) = 0) (hP : ∀ r, r ∈ P -> r.length = L /\ ∀ x, x ∈ r -> x < 256) (h0 : 0 < P.length) (hn : P.length <= 1000) (rows : List (List Int)) (hrl : rows.length <= 1000) (hrows : ∀ r, r ∈ rows -> r.length = P.length /\ ∀ x, x ∈ r -> inF (pbits q) x = true) (t : ByteArray) (b c : Int) :
  ∀(m i:Nat),i+m=rows.length->Ev (fun k=>apz.l0 k (P.map castN) rows ((rows.take i).map fun r=>castN (dotN L (pbits q) r P)) (i:Int) t (pbits q) (fpoly (pbits q)) b c) (rows.map (fun r=>castN (dotN L (pbits q) r P)),0):=by
 intro m
 induction m with
 |zero=>
  intro i hi;refine Ev.step (f:=fun _=>some (rows.map (fun r=>castN (dotN L (pbits q) r P)),0)) (fun k=> ?_) (Ev.now _);rw [apz.l0,if_neg (by omega),List.take_of_length_le (by omega)]
 |succ m ih=>
  intro i hi;obtain ⟨r,hri⟩: ∃r,rows[i]?=some r:=⟨_,List.getElem?_eq_getElem (by omega)⟩;have hrr:=hrows r (List.mem_of_getElem? hri)
  have e1:rd_L4 rows (i:Int)=r:=by
   unfold rd_L4;rw [Int.toNat_natCast,List.getD_eq_getElem?_getD,hri];rfl
  have hnext:=ih (i+1) (by omega);rw [List.take_add_one,hri,Option.toList_some,List.map_append,List.map_singleton] at hnext;refine Ev.step (f:=fun k=>(amz.f k (pbits q) (fpoly (pbits q)) r (P.map castN)).bind fun u=>if ((rows.take i).map fun r=>castN (dotN L (pbits q) r P)).length<5864062014805 then apz.l0 k (P.map castN) rows (((rows.take i).map fun r=>castN (dotN L (pbits q) r P))++ [u.1]) (wrap64 ((i:Int)+1)) t (pbits q) (fpoly (pbits q)) b c else none) (fun k=> ?_) (Ev.bind (rdot_ev (ehz q) L hL hd r P hrr.1 hn h0 hrr.2 hP) (Ev.congr (fun k=> ?_) hnext))
  ·rw [apz.l0,if_pos (by omega),if_pos (by omega),e1]
  ·dsimp only;rw [if_pos (by rw [List.length_map,List.length_take];omega),w64 (by omega) (by omega),show ((i:Int)+1)=((i+1:Nat):Int) by omega]
theorem bytes_nat (l:List (List Int)) (hb: ∀r,r∈l-> ∀x,x∈r->0<=x/\x<=255): ∃P:List (List Nat),l=P.map castN/\ ∀r,r∈P-> ∀x,x∈r->x<256:=by
 induction l with
 |nil=>exact ⟨[],rfl,fun r h=>by simp at h⟩
 |cons a l ih=>
  obtain ⟨P,e,h⟩:=ih (fun r hr=>hb r (List.mem_cons_of_mem _ hr));obtain ⟨n,hn,hn2⟩:=isB_of a (hb a (List.mem_cons_self ..));refine ⟨n::P,?_,fun r hr=> ?_⟩
  ·rw [e,hn];rfl
  ·rcases List.mem_cons.1 hr with rfl|hr
   ·exact hn2
   ·exact h r hr
theorem rpar11 (q x y : Int) (l : List (List Int)) (hl : l.length <= 1000) (hr : ∀ r, r ∈ l -> r.length <= 1000000) (hb : ∀ r, r ∈ l -> ∀ x, x ∈ r -> 0 <= x /\ x <= 255) :
  ∃(p:List (List Int)) (e:Int),Ev (fun k=>apz.f k q x y l) (p,e)/\Ev (fun k=>aCz.f k q x y l) (p,e)/\p.length<=1000/\(∀r,r∈p->r.length<=1000000)/\(e=0\/e=1)/\(∀r,r∈p-> ∀x,x∈r->0<=x/\x<=255):=by
 have hbad: ∀(f:Nat->Option (List (List Int)×Int)),Ev f ([],1)->Ev (fun k=>aCz.f k q x y l) ([],1)->Ev (fun k=>f k) (([] :List (List Int)),(1:Int))/\Ev (fun k=>aCz.f k q x y l) (([] :List (List Int)),(1:Int))/\([] :List (List Int)).length<=1000/\(∀r,r∈([] :List (List Int))->r.length<=1000000)/\((1:Int)=0\/(1:Int)=1)/\(∀r,r∈([] :List (List Int))-> ∀x,x∈r->0<=x/\x<=255):=
  fun f h1 h2=>⟨h1,h2,Nat.zero_le _,fun r h=>by simp at h, .inr rfl,fun r h=>by simp at h⟩
 obtain ⟨mb,hmb⟩:=ekz q x y;have hj: ∀(a b c:Int),Ev (fun k=>apz.j0 k l true a b c) ([],1):=fun a b c=>Ev.step (f:=fun _=>some ([],1)) (fun k=>by rw [apz.j0,if_pos rfl]) (Ev.now _)
 cases mb with
 |false=>
  refine ⟨[],1,hbad _ (Ev.congr (fun k=> ?_) (hj q x y)) (Ev.congr (fun k=> ?_) (Ev.now _))⟩
  ·unfold apz.f;rw [dxz,hmb,Option.bind_some,if_neg (by decide)]
  ·unfold aCz.f;rw [hmb,Option.bind_some,if_neg (by decide)]
 |true=>
  obtain ⟨p1,p2,k1,k2,m1,m2⟩:=cJz hmb;obtain ⟨K,rfl⟩: ∃K:Nat,x=K:=⟨x.toNat,by omega⟩;obtain ⟨M,rfl⟩: ∃M:Nat,y=M:=⟨y.toNat,by omega⟩;have hgd:=dZz q K M (by omega) (by omega) (by omega) (by omega);by_cases hlen:(l.length:Int)=(K:Int)
  ·obtain ⟨r0,h0⟩: ∃r,l[0]?=some r:=⟨_,List.getElem?_eq_getElem (by omega)⟩;have hr0:=hr r0 (List.mem_of_getElem? h0);obtain ⟨L,hL⟩: ∃L,r0.length=L:=⟨_,rfl⟩;have hev:=reven_ev q p1 p2 (K:Int) (M:Int) l L r0 h0 hL (by omega) hr
   have hsm:aCz.small l=true:=by
    simp only [aCz.small,Bool.and_eq_true,decide_eq_true_eq,List.all_eq_true];exact ⟨by omega,hr⟩
   by_cases hall:l.all (evenP (pbits q) L)=true
   ·have hall' : ∀ r, r ∈ l -> r.length = L /\ r.length % wN (pbits q) = 0 := fun r hm => by
     have:=List.all_eq_true.1 hall r hm;unfold evenP evB at this
     simpa using this
    have hLd:L % wN (pbits q)=0:=by
     have:=hall' r0 (List.mem_of_getElem? h0);rw [this.1] at this;exact this.2
    have h2:=par_ev q K M L l hmb (by omega) (by omega) hLd (fun r hm=>(hall' r hm).1);obtain ⟨P,hPe,hP⟩:=bytes_nat l hb;have hPl:P.length=l.length:=by rw [hPe,List.length_map]
    have hPP: ∀r,r∈P->r.length=L/\ ∀x,x∈r->x<256:=fun r hm=>⟨by
     have:=(hall' (castN r) (by rw [hPe];exact List.mem_map_of_mem hm)).1
     rwa [bOz] at this,hP r hm⟩
    have hrowsP: ∀r,r∈parM q K M->r.length=P.length/\ ∀x,x∈r->inF (pbits q) x=true:=fun r hm=>by
     have:=hgd.1 r hm;refine ⟨by rw [this.1];omega,fun z hz=> ?_⟩;have:=this.2 z hz;unfold inF;rw [decide_eq_true this.1,decide_eq_true this.2];rfl
    have hpv:parV L q K M l=(parM q K M).map (fun r=>castN (dotN L (pbits q) r P)):=by
     unfold parV;refine List.map_congr_left (fun r hm=> ?_);rw [hPe];exact dotV_nat (ehz q) L r P (fun r hr=>⟨(hPP r hr).2,by rw [(hPP r hr).1];exact hLd⟩)
    obtain ⟨t,b,c,he⟩:=rof_ev q p1 p2;have h3:=rpar_l q K M L P (by omega) hLd hPP (by omega) (by omega) (parM q K M) (by rw [hgd.2];omega) hrowsP t b c (parM q K M).length 0 (by omega);rw [<-hPe, <-hpv] at h3
    have hvl: ∀r,r∈parV L q K M l->r.length=L:=by
     intro r hm;unfold parV at hm;obtain ⟨c, -,rfl⟩:=List.mem_map.1 hm;exact dotV_len hLd (fun r hm=>(hall' r hm).1)
    refine ⟨parV L q K M l,0,?_,h2,?_,fun r hm=>by rw [hvl r hm];omega, .inl rfl,?_⟩
    ·refine Ev.congr (fun k=>by unfold apz.f;rw [dxz,hmb,Option.bind_some,if_pos rfl,if_pos hlen]) ?_;refine Ev.bind hev ?_;rw [hall];refine Ev.step (f:=fun k=>(bqz.f k q (K:Int) (M:Int)).bind fun u=>apz.l0 k l u.1 ([] :List (List Int)) 0 t (pbits q) (fpoly (pbits q)) b c) (fun k=> ?_) (Ev.bind (rpar_ev q K M hmb) h3);show apz.j0 (k+1) l false q (K:Int) (M:Int)=_;rw [apz.j0,if_neg (by decide),he,Option.bind_some]
    ·rw [parV_len L q K M l hmb];omega
    ·rw [hpv];intro r hm z hz;obtain ⟨c, -,rfl⟩:=List.mem_map.1 hm;unfold castN at hz;obtain ⟨w,hw,rfl⟩:=List.mem_map.1 hz;have:=dotN_lt L (pbits q) c P w hw;omega
   ·refine ⟨[],1,hbad _ ?_ ?_⟩
    ·refine Ev.congr (fun k=>by unfold apz.f;rw [dxz,hmb,Option.bind_some,if_pos rfl,if_pos hlen]) ?_;refine Ev.bind hev ?_;rw [Bool.eq_false_iff.2 hall];exact hj q (K:Int) (M:Int)
    ·obtain ⟨c, rest, hc⟩ : ∃ c rest, parM q K M = c :: rest := by
      cases e:parM q K M with
      |nil=>rw [e] at hgd;simp at hgd;omega
      |cons c rest=>exact ⟨c,rest,rfl⟩
     have hcl:=(hgd.1 c (by rw [hc];exact List.mem_cons_self ..)).1
     have hbadD:Ev (fun k=>dotB k (pbits q) c l) ([],1):=by
      by_cases he:l.all (evB (pbits q))=true
      ·have hex : ∃ r, r ∈ l /\ r.length ≠ L := by
        apply Classical.byContradiction
        intro hno;apply hall
        rw [List.all_eq_true];intro r hm;have h1:=List.all_eq_true.1 he r hm;have h2:r.length=L:=Classical.byContradiction fun h=>hno ⟨r,hm,h⟩
        unfold evenP;rw [h1,h2];simp
       obtain ⟨r,hm,hne⟩:=hex;obtain ⟨j,hj⟩:=List.getElem?_of_mem hm;exact dotB_bad (pbits q) c l L (by omega) (by omega) hr r0 r h0 hL j hj hne
      ·unfold dotB;exact Ev.congr (fun k=>by rw [if_neg he]) (Ev.now _)
     refine Ev.congr (f:=fun k=>(dotB k (pbits q) c l).bind fun t=>if t.2=0 then aCz.l k (pbits q) l rest ([] ++ [t.1]) else some ([],1)) (fun k=> ?_) (Ev.bind hbadD (Ev.congr (fun k=>by rw [if_neg (by decide)]) (Ev.now _)));unfold aCz.f;rw [hmb,Option.bind_some,if_pos rfl,if_pos hlen,if_pos hsm,Int.toNat_natCast,Int.toNat_natCast,hc];simp only [aCz.l]
  ·refine ⟨[],1,hbad _ (Ev.congr (fun k=> ?_) (hj q (K:Int) (M:Int))) (Ev.congr (fun k=> ?_) (Ev.now _))⟩
   ·unfold apz.f;rw [dxz,hmb,Option.bind_some,if_pos rfl,if_neg hlen]
   ·unfold aCz.f;rw [hmb,Option.bind_some,if_pos rfl,if_neg hlen]
theorem byt_inj: ∀(x y:List Int),(∀z,z∈x->0<=z/\z<=255)->(∀z,z∈y->0<=z/\z<=255)->(x.map fun n:Int=>UInt8.ofNat n.toNat)=(y.map fun n:Int=>UInt8.ofNat n.toNat)->x=y
 | [], [],_,_,_=>rfl
 | [],_::_,_,_,h=>by simp at h
 |_::_, [],_,_,h=>by simp at h
 |a::x,b::y,hx,hy,h=>by
  rw [List.map_cons,List.map_cons] at h;injection h with h1 h2
  have ha:=hx a (List.mem_cons_self ..);have hb:=hy b (List.mem_cons_self ..)
  have h3:a.toNat=b.toNat:=by
   have h4:=congrArg UInt8.toNat h1;rw [UInt8.toNat_ofNat',UInt8.toNat_ofNat',Nat.mod_eq_of_lt (by omega),Nat.mod_eq_of_lt (by omega)] at h4;exact h4
  rw [byt_inj x y (fun z hz=>hx z (List.mem_cons_of_mem _ hz)) (fun z hz=>hy z (List.mem_cons_of_mem _ hz)) h2,show a=b by omega]
theorem str_inj (x y:List Int) (hx: ∀z,z∈x->0<=z/\z<=255) (hy: ∀z,z∈y->0<=z/\z<=255) (h:(strOfNums x).toList=(strOfNums y).toList):x=y:=by
 rw [Lib.strOfNums_toList,Lib.strOfNums_toList] at h;exact byt_inj x y hx hy h
theorem rsame_l (p q : List (List Int)) (n : Nat) (hp : p.length = n) (hq : q.length = n) (hn : n <= 1000000) (hpb : ∀ r, r ∈ p -> ∀ z, z ∈ r -> 0 <= z /\ z <= 255) (hqb : ∀ r, r ∈ q -> ∀ z, z ∈ r -> 0 <= z /\ z <= 255) :
  ∀(m i:Nat),i+m=n->Ev (fun k=>aXz.l0 k p q (i:Int)) (decide (p.drop i=q.drop i)):=by
 intro m
 induction m with
 |zero=>
  intro i hi;refine Ev.step (f:=fun _=>some true) (fun k=> ?_) ?_
  ·rw [aXz.l0,if_neg (by omega)]
  ·rw [List.drop_of_length_le (by omega),List.drop_of_length_le (by omega)];exact Ev.now _
 |succ m ih=>
  intro i hi;have hip:i<p.length:=by omega
  have hiq:i<q.length:=by omega
  have e1:p.getD (i:Int).toNat [] =p[i] :=by rw [Int.toNat_natCast,List.getD_eq_getElem?_getD,List.getElem?_eq_getElem hip];rfl
  have e2:q.getD (i:Int).toNat [] =q[i] :=by rw [Int.toNat_natCast,List.getD_eq_getElem?_getD,List.getElem?_eq_getElem hiq];rfl
  have d1:=List.drop_eq_getElem_cons hip;have d2:=List.drop_eq_getElem_cons hiq;by_cases h:p[i] =q[i]
  ·refine Ev.step (f:=fun k=>aXz.l0 k p q ((i+1:Nat):Int)) (fun k=> ?_) ?_
   ·rw [aXz.l0,if_pos (by omega),if_pos (by omega),if_pos (by omega),e1,e2,if_pos (by rw [h]),dFz (by omega)]
   ·have:=ih (i+1) (by omega);rw [d1,d2];rw [show decide (p[i] ::p.drop (i+1)=q[i] ::q.drop (i+1))=decide (p.drop (i+1)=q.drop (i+1)) by rw [h];simp only [List.cons.injEq,true_and]];exact this
  ·refine Ev.step (f:=fun _=>some false) (fun k=> ?_) ?_
   ·rw [aXz.l0,if_pos (by omega),if_pos (by omega),if_pos (by omega),e1,e2,if_neg (fun e=>h (str_inj _ _ (hpb _ (List.getElem_mem _)) (hqb _ (List.getElem_mem _)) e))]
   ·rw [d1,d2,decide_eq_false (by intro hh;injection hh with h1 _;exact h h1)];exact Ev.now _
theorem rsame_dec (p q:List (List Int)) (hn:p.length<=1000000) (hpb: ∀r,r∈p-> ∀z,z∈r->0<=z/\z<=255) (hqb: ∀r,r∈q-> ∀z,z∈r->0<=z/\z<=255):Ev (fun k=>aXz.f k p q) (decide (p=q)):=by
 by_cases hl:p.length=q.length
 ·have h:=rsame_l p q p.length rfl hl.symm hn hpb hqb p.length 0 (by omega);refine Ev.congr (fun k=> ?_) (by simpa using h);unfold aXz.f;rw [if_pos (by omega)]
 ·refine Ev.congr (f:=fun _=>some false) (fun k=> ?_) ?_
  ·unfold aXz.f;rw [if_neg (by omega)]
  ·rw [decide_eq_false (by rintro rfl;exact hl rfl)];exact Ev.now _
theorem rver11 (q x y : Int) (l : List (List Int)) (hl : l.length <= 1000) (hr : ∀ r, r ∈ l -> r.length <= 1000000) (hb : ∀ r, r ∈ l -> ∀ z, z ∈ r -> 0 <= z /\ z <= 255) :
  ∃b,Ev (fun k=>aAz.f k q x y l) b/\Ev (fun k=>bjz.f k q x y l) b:=by
 obtain ⟨mb,hmb⟩:=ekz q x y;have hj: ∀(a b c:Int),Ev (fun k=>aAz.j0 k l true a b c) false:=fun a b c=>Ev.step (f:=fun _=>some false) (fun k=>by rw [aAz.j0,if_pos rfl]) (Ev.now _)
 cases mb with
 |false=>
  refine ⟨false,Ev.congr (fun k=> ?_) (hj q x y),Ev.congr (fun k=> ?_) (Ev.now _)⟩
  ·unfold aAz.f;rw [dxz,hmb,Option.bind_some,if_neg (by decide)]
  ·unfold bjz.f;rw [hmb,Option.bind_some,if_neg (by decide)]
 |true=>
  obtain ⟨p1,p2,k1,k2,m1,m2⟩:=cJz hmb;have hw:wrap64 (x+y)=x+y:=w64 (by omega) (by omega);by_cases hlen:(l.length:Int)=x+y
  ·obtain ⟨p,e,h1,h2,h3,h4,h5,h6⟩:=rpar11 q x y (l.take x.toNat) (by rw [List.length_take];omega) (fun r hm=>hr r (List.mem_of_mem_take hm)) (fun r hm=>hb r (List.mem_of_mem_take hm));have hs1:=rsame_dec p (l.drop x.toNat) (by omega) h6 (fun r hm=>hb r (List.mem_of_mem_drop hm));have hs2:=eqFunc_dec p (l.drop x.toNat) (by omega) (fun r hm=>by have:=h4 r hm;omega)
   have href: ∀b,(e=0->Ev (fun k=>aXz.f k p (l.drop x.toNat)) b)->(e≠0->b=false)->Ev (fun k=>aAz.f k q x y l) b:=by
    intro b hb1 hb2;refine Ev.congr (fun k=>by unfold aAz.f;rw [dxz,hmb,Option.bind_some,if_pos rfl,hw,show ((l.length:Int) !=x+y)=false by rw [hlen];exact bne_self_eq_false _]) ?_;refine Ev.step (f:=fun k=>(apz.f k q x y (l.take x.toNat)).bind fun t=>if t.2=0 then (aXz.f k t.1 (l.drop x.toNat)).bind fun u=>some u else some false) (fun k=>by rw [aAz.j0,if_neg (by decide),if_pos (by omega),if_pos (by omega)]) (Ev.bind h1 ?_);by_cases he:e=0
    ·exact Ev.congr (fun k=>by dsimp only;rw [if_pos he]) (Ev.bind (hb1 he) (Ev.now b))
    ·rw [hb2 he];exact Ev.congr (fun k=>by dsimp only;rw [if_neg he]) (Ev.now false)
   have hcod: ∀b,(e=0->Ev (fun k=>eqFunc k p (l.drop x.toNat)) b)->(e≠0->b=false)->Ev (fun k=>bjz.f k q x y l) b:=by
    intro b hb1 hb2;refine Ev.congr (fun k=>by unfold bjz.f;rw [hmb,Option.bind_some,if_pos rfl,if_pos hlen]) (Ev.bind h2 ?_);by_cases he:e=0
    ·exact Ev.congr (fun k=>by dsimp only;rw [if_pos he]) (hb1 he)
    ·rw [hb2 he];exact Ev.congr (fun k=>by dsimp only;rw [if_neg he]) (Ev.now false)
   by_cases he:e=0
   ·exact ⟨_,href _ (fun _=>hs1) (fun h=>absurd he h),hcod _ (fun _=>hs2) (fun h=>absurd he h)⟩
   ·exact ⟨false,href _ (fun h=>absurd h he) (fun _=>rfl),hcod _ (fun h=>absurd h he) (fun _=>rfl)⟩
  ·refine ⟨false,Ev.congr (fun k=> ?_) (hj q x y),Ev.congr (fun k=> ?_) (Ev.now _)⟩
   ·unfold aAz.f;rw [dxz,hmb,Option.bind_some,if_pos rfl,hw,show ((l.length:Int) !=x+y)=true from bne_iff_ne.2 hlen]
   ·unfold bjz.f;rw [hmb,Option.bind_some,if_pos rfl,if_neg hlen]
theorem fewb_loop (l:List (List Int)): ∀(m i:Nat),i+m=l.length->(∀r,r∈l.take i->r.length<=300)->i<=13-> ∃b,Ev (fun k=>aFz.l0 k l (i:Int)) b/\(b=true->(∀r,r∈l->r.length<=300)/\l.length<=12):=by
 intro m
 induction m with
 |zero=>
  intro i hi h _;refine ⟨decide ((l.length:Int)<=12),?_,fun hb=> ?_⟩
  ·have he : Ev (fun k => aFz.j1 k l (i : Int) false) (decide ((l.length : Int) <= 12)) := by
    refine Ev.step (f:=fun _=>some (decide ((l.length:Int)<=12))) (fun k=> ?_) (Ev.now _);rw [aFz.j1,if_neg (by decide)]
   refine Ev.step (fun k=> ?_) he;rw [aFz.l0,if_neg (by omega)]
  ·rw [List.take_of_length_le (by omega)] at h;have:=of_decide_eq_true hb;exact ⟨h,by omega⟩
 |succ m ih=>
  intro i hi h h13;by_cases hlt:i<13
  ·obtain ⟨r,hr⟩: ∃r,l[i]?=some r:=⟨_,List.getElem?_eq_getElem (by omega)⟩;have hrd:rd_L1 l (i:Int)=r:=by unfold rd_L1;rw [Int.toNat_natCast,List.getD_eq_getElem?_getD,hr];rfl
   by_cases hlen:r.length<=300
   ·obtain ⟨b, hE, hb⟩ := ih (i + 1) (by omega) (fun q hq => by
     rw [List.take_add_one,hr] at hq;rcases List.mem_append.1 hq with hq|hq
     ·exact h q hq
     ·obtain rfl:q=r:=by simpa using hq
      exact hlen) (by omega)
    refine ⟨b,?_,hb⟩
    have he:Ev (fun k=>aFz.j1 k l (i:Int) true) b:=by
     refine Ev.step (fun k=> ?_) hE;rw [aFz.j1,if_pos rfl,if_pos (by omega),if_pos (by omega),hrd,if_neg (by omega),dFz (by omega)]
    refine Ev.step (fun k=> ?_) he;rw [aFz.l0,if_pos (by omega),decide_eq_true (by omega)]
   ·refine ⟨false,?_,fun hb=>by cases hb⟩
    have he:Ev (fun k=>aFz.j1 k l (i:Int) true) false:=by
     refine Ev.step (f:=fun _=>some false) (fun k=> ?_) (Ev.now _);rw [aFz.j1,if_pos rfl,if_pos (by omega),if_pos (by omega),hrd,if_pos (by omega)]
    refine Ev.step (fun k=> ?_) he;rw [aFz.l0,if_pos (by omega),decide_eq_true (by omega)]
  ·refine ⟨decide ((l.length:Int)<=12),?_,fun hb=>by have:=of_decide_eq_true hb;omega⟩
   have he:Ev (fun k=>aFz.j1 k l (i:Int) false) (decide ((l.length:Int)<=12)):=by
    refine Ev.step (f:=fun _=>some (decide ((l.length:Int)<=12))) (fun k=> ?_) (Ev.now _);rw [aFz.j1,if_neg (by decide)]
   refine Ev.step (fun k=> ?_) he;rw [aFz.l0,if_pos (by omega),decide_eq_false (by omega)]
theorem fewb_ev (l:List (List Int)): ∃b,Ev (fun n=>aFz.f n l) b/\(b=true->(∀r,r∈l->r.length<=300)/\l.length<=12):=by
 obtain ⟨b,h1,h2⟩:=fewb_loop l l.length 0 (by omega) (by simp) (by omega);exact ⟨b,Ev.congr (fun n=>rfl) h1,h2⟩
theorem u8_wf {x:Int} (h:(Lit.int .u8 x).wf=true):0<=x/\x<=255:=by
 simp [Lit.wf,IntKind.has] at h;have h1:IntKind.min .u8=0:=rfl;have h2:IntKind.max .u8=255:=rfl;omega
end Go.Proofs.Xc
end
section
namespace Go.Proofs.YtpdakdcmahlghaaGreat.RowKit
open Go Go.ChangeShapes Go.Proofs.Pw
theorem nil_reads {α:Type} (d:Kd α) (w:World):d.C w none 0 [] :=⟨rfl,by simp,fun h=>absurd h (by simp)⟩
theorem open_rows {H : Type} {enc : TypeId × Value -> H} {P : Program} {w : World} {t e eb : TypeId} {k : IntKind} {fuel : Nat} {cs : List Value} {x : DataW H × List MemPlace} (ht : P.underlying t = some (.slice e)) (he : P.underlying e = some (.slice eb)) (hb : P.underlying eb = some (.int k)) (hce : P.cellsOf e = 1) (hcb : P.cellsOf eb = 1)
  (h:DataW.trod enc P w 0 (fun _=>true) true fuel t cs=some x):
  ∃(A:Option Addr) (cap:Nat) (rows:List (List Int)),cs= [.slice A rows.length cap] /\rows.length<=cap/\rows.length<=maxLen/\Kd.C (Kd.slice eb (Kd.int k)) w A rows.length rows/\ ∀r,r∈rows->r.length<=maxLen/\ ∀x∈r,(Lit.int k x).wf=true:=by
 rcases DataW.trod_slice ht h with ⟨rfl, -⟩|⟨a,len,cap,elems,rest,n,rfl,rfl,rfl, -,hl,hm,hlen,hel, -, -⟩
 ·exact ⟨none,0, [],rfl,Nat.le_refl _,Nat.zero_le _,nil_reads _ _,fun r hr=>by simp at hr⟩
 have each: ∀i,i<len-> ∃r:List Int,(∃A c,w.cell? (a.add i)=some (.slice A r.length c)/\r.length<=c/\Kd.C (Kd.int k) w A r.length r)/\r.length<=maxLen/\ ∀x∈r,(Lit.int k x).wf=true:=by
  intro i hi;have h1:=hel i hi;rw [hce,Nat.mul_one,List.getElem?_eq_getElem (by omega),Option.bind_eq_some_iff] at h1;obtain ⟨cs',hcs,hy⟩:=h1;rcases open_ints he hb hcb hy with ⟨rfl, -⟩|⟨a',l',c',zs,rfl, -,hl',hm',hz, -,hcell,hwz⟩
  ·exact ⟨[],⟨none,0,cell_of_cells?_one hcs,Nat.le_refl _,nil_reads _ _⟩,Nat.zero_le _,fun x hx=>by simp at hx⟩
  ·obtain ⟨r,rfl,h1,h2,h3,h4⟩:=ReadsInt.ofRowC (k:=k) (w:=w) (a:=some a') (len:=l') (cap:=c') (zs:=zs) (.inr ⟨a',rfl,hl',hm',by simpa using hz,hcell,hwz⟩);exact ⟨r,⟨some a',c',cell_of_cells?_one hcs,h4,Kd.C_of_reads (d:=(0:Int)) (h1:=fun _=>rfl) h1⟩,h2,h3⟩
 have all: ∀m,m<=len-> ∃rows:List (List Int),rows.length=m/\ ∀(i:Nat) (r:List Int),rows[i]?=some r->(∃A c,w.cell? (a.add i)=some (.slice A r.length c)/\r.length<=c/\Kd.C (Kd.int k) w A r.length r)/\r.length<=maxLen/\ ∀x∈r,(Lit.int k x).wf=true:=by
  intro m
  induction m with
  |zero=>exact fun _=>⟨[],rfl,fun i r hr=>by simp at hr⟩
  |succ m ih=>
   intro hm;obtain ⟨rows,e1,e2⟩:=ih (by omega);obtain ⟨r,hr⟩:=each m (by omega);refine ⟨rows++ [r],by simp [e1],fun i q hq=> ?_⟩;by_cases hi:i<rows.length
   ·rw [List.getElem?_append_left hi] at hq;exact e2 i q hq
   ·have hlt:=(List.getElem?_eq_some_iff.1 hq).1;obtain rfl:i=m:=by simp at hlt;omega
    rw [List.getElem?_append_right (by omega),e1,Nat.sub_self] at hq;obtain rfl:r=q:=by simpa using hq
    exact hr
 obtain ⟨rows,rfl,hrows⟩:=all len (Nat.le_refl _);refine ⟨some a,cap,rows,rfl,hl,Nat.le_trans hl hm,⟨rfl,Nat.le_trans (Nat.le_trans hl hm) (by decide),fun _=>⟨a,rfl,fun j p hj=> ?_⟩⟩,fun r hr=> ?_⟩
 ·obtain ⟨⟨A,c,h1,h2,h3⟩, -, -⟩:=hrows j p hj;refine ⟨[.slice A p.length c],rfl,⟨A,c,rfl,h2,h3⟩,fun i u hu=> ?_⟩
  cases i with
  |zero=>
   obtain rfl:Value.slice A p.length c=u:=by simpa using hu
   show w.cell? (a.add (j*1+0))=_;rw [Nat.mul_one];exact h1
  |succ i=>simp at hu
 ·obtain ⟨j,hj⟩:=List.getElem?_of_mem hr;exact (hrows j r hj).2
end Go.Proofs.YtpdakdcmahlghaaGreat.RowKit
end
