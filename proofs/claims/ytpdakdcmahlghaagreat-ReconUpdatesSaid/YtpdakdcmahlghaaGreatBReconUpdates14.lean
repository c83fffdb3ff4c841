-- Joined texts of this work (wip/tools/bundle.py).
import Derived.Test.YtpdakdcmahlghaaGreatBReconUpdates13
set_option maxHeartbeats 4000000
set_option maxRecDepth 100000
set_option linter.unusedVariables false
set_option linter.unusedSimpArgs false
section
namespace Go.Proofs.Xc
open Go.RowKit Go.Proofs.Pw Go.Proofs.Pl Go.Proofs.Pm
attribute [local go_sem] a7z a8z bjz bkz aZz a0z a9z baz
def swapL {α:Type} (l:List α) (i k:Nat):List α:=match l[i]?,l[k]? with
 |some x,some y=>(l.set i y).set k x
 |_,_=>l
def clrAll (wb:Int) (at_ c:Nat) (pr:List Int) (rows:List (List Int)):List (List Int):=rows.mapIdx fun i row=>if i=at_ then row else List.zipWith (clrF wb (row.getD c 0)) row pr
def nzB (c:Nat) (row:List Int):Bool:=row.getD c 0 !=0
def redStep (wb:Int) (c:Nat) (rows:List (List Int)) (at_:Nat):List (List Int)×Nat:=
 let k:=idxF (nzB c) (rows.drop at_)
 if k<0 then (rows,at_) else
  let r1:=swapL rows at_ (at_+k.toNat)
  let pr:=r1.getD at_ []
  let p2:=List.zipWith (fun x _=>gmul wb x (ginv wb (pr.getD c 0))) pr pr
  (clrAll wb at_ c p2 (r1.set at_ p2),at_+1)
def redF (wb:Int):Nat->Nat->List (List Int)->Nat->List (List Int)×Nat
 |0,_,rows,at_=>(rows,at_)
 |n+1,c,rows,at_=>if at_=rows.length then (rows,at_) else redF wb n (c+1) (redStep wb c rows at_).1 (redStep wb c rows at_).2
theorem drz {α:Type} (l:List α) (i k:Nat):(swapL l i k).length=l.length:=by
 unfold swapL;split<;>simp
theorem swapL_eq {α:Type} (l:List α) (i k:Nat) (x y:α) (hx:l[i]?=some x) (hy:l[k]?=some y):swapL l i k=(l.set i y).set k x:=by
 unfold swapL;rw [hx,hy]
theorem dsz {α:Type} (l:List α) (i k:Nat) (x y:α) (hx:l[i]?=some x) (hy:l[k]?=some y) (j:Nat):(swapL l i k)[j]?=if j=k then some x else if j=i then some y else l[j]?:=by
 rw [swapL_eq l i k x y hx hy];have h1:=(Zk hx).1;have h2:=(Zk hy).1;by_cases hjk:j=k
 ·subst hjk;rw [List.getElem?_set_self (by simpa using h2),Ya rfl]
 ·rw [List.getElem?_set_ne (Ne.symm hjk),Yb hjk];by_cases hji:j=i
  ·subst hji;rw [List.getElem?_set_self h1,Ya rfl]
  ·rw [List.getElem?_set_ne (Ne.symm hji),Yb hji]
theorem swapL_map {α β:Type} (f:α->β) (l:List α) (i k:Nat):(swapL l i k).map f=swapL (l.map f) i k:=by
 unfold swapL;rw [List.getElem?_map,List.getElem?_map];cases l[i]?<;>cases l[k]?<;>simp [List.map_set]
theorem swapL_perm {α:Type} (l:List α) (i k:Nat):(swapL l i k).Perm l:=by
 unfold swapL;split
 ·rename_i x y hx hy
  obtain ⟨h1,rfl⟩:=Zk hx;obtain ⟨h2,rfl⟩:=Zk hy;exact List.set_set_perm h1 h2
 ·exact List.Perm.refl _
theorem swapL_mem {α:Type} (l:List α) (i k:Nat) (x:α) (h:x∈swapL l i k):x∈l:=(swapL_perm l i k).mem_iff.1 h
theorem csz (wb:Int) (at_ c:Nat) (pr:List Int) (rows:List (List Int)):(clrAll wb at_ c pr rows).length=rows.length:=by simp [clrAll]
theorem dtz (wb:Int) (at_ c:Nat) (pr:List Int) (rows:List (List Int)) (i:Nat) (row:List Int) (h:rows[i]?=some row):(clrAll wb at_ c pr rows)[i]?=some (if i=at_ then row else List.zipWith (clrF wb (row.getD c 0)) row pr):=by
 simp [clrAll,List.getElem?_mapIdx,h]
def clrTo (wb:Int) (at_ c:Nat) (pr:List Int) (rows:List (List Int)) (i:Nat):List (List Int):=(clrAll wb at_ c pr rows).take i++rows.drop i
theorem clrTo_zero (wb:Int) (at_ c:Nat) (pr:List Int) (rows:List (List Int)):clrTo wb at_ c pr rows 0=rows:=by simp [clrTo]
theorem clrTo_full (wb:Int) (at_ c:Nat) (pr:List Int) (rows:List (List Int)):clrTo wb at_ c pr rows rows.length=clrAll wb at_ c pr rows:=by
 unfold clrTo;rw [List.drop_length,List.append_nil,List.take_of_length_le (by rw [csz];exact Zv _)]
theorem clrTo_length (wb:Int) (at_ c:Nat) (pr:List Int) (rows:List (List Int)) (i:Nat) (hi:i<=rows.length):(clrTo wb at_ c pr rows i).length=rows.length:=by
 simp [clrTo,csz];omega
theorem clrTo_at (wb:Int) (at_ c:Nat) (pr:List Int) (rows:List (List Int)) (i:Nat) (row:List Int) (h:rows[i]?=some row):(clrTo wb at_ c pr rows i)[i]?=some row:=by
 have hi:=(Zk h).1;unfold clrTo;rw [List.getElem?_append_right (by rw [List.length_take];exact Nat.min_le_left _ _),List.length_take,csz,Nat.min_eq_left (by omega),Nat.sub_self,List.getElem?_drop];exact h
theorem clrTo_pr (wb:Int) (at_ c:Nat) (pr:List Int) (rows:List (List Int)) (i:Nat) (h:rows[at_]?=some pr):(clrTo wb at_ c pr rows i)[at_]?=some pr:=by
 have hi:=(Zk h).1;unfold clrTo;by_cases hlt:at_<i
 ·rw [List.getElem?_append_left (by simp [csz];omega),List.getElem?_take,Ya hlt,dtz wb at_ c pr rows at_ pr h,Ya rfl]
 ·rw [List.getElem?_append_right (by simp [csz];omega),List.length_take,csz,List.getElem?_drop];rw [show i+(at_ - min i rows.length)=at_ by omega];exact h
theorem clrTo_step (wb:Int) (at_ c:Nat) (pr:List Int) (rows:List (List Int)) (i:Nat) (row:List Int) (h:rows[i]?=some row) (hne:i≠at_):(clrTo wb at_ c pr rows i).set i (List.zipWith (clrF wb (row.getD c 0)) row pr)=clrTo wb at_ c pr rows (i+1):=by
 have hi:=(Zk h).1;have h2:=dtz wb at_ c pr rows i row h;rw [Yb hne] at h2;unfold clrTo;rw [List.set_append_right _ _ (by rw [List.length_take];exact Nat.min_le_left _ _),List.length_take,csz,Nat.min_eq_left (by omega),Nat.sub_self,List.drop_eq_getElem_cons hi,Zh,List.take_add_one,h2,List.append_assoc];rfl
theorem clrTo_skip (wb:Int) (at_ c:Nat) (pr:List Int) (rows:List (List Int)) (row:List Int) (h:rows[at_]?=some row):clrTo wb at_ c pr rows at_=clrTo wb at_ c pr rows (at_+1):=by
 have hi:=(Zk h).1;have h2:=dtz wb at_ c pr rows at_ row h;rw [Ya rfl] at h2;obtain ⟨_,e⟩:=Zk h;unfold clrTo;rw [List.drop_eq_getElem_cons hi,e,List.take_add_one,h2,List.append_assoc];rfl
theorem Mx.swap {W : World} {o : Nat} {bs : List (Nat × Nat)} {rows : List (List Int)} (h : Mx W o bs rows) {i k bi ci bk ck : Nat} {ri rk : List Int} (hbi : bs[i]? = some (bi, ci)) (hbk : bs[k]? = some (bk, ck)) (hri : rows[i]? = some ri) (hrk : rows[k]? = some rk) :
  Mx ((W.setCell ⟨o,i,none⟩ (.slice (some ⟨bk,0,none⟩) rk.length ck)).setCell ⟨o,k,none⟩ (.slice (some ⟨bi,0,none⟩) ri.length ci)) o (swapL bs i k) (swapL rows i k):=by
 have hne: ∀(j b c:Nat),bs[j]?=some (b,c)->b≠o:=fun j b c hb=>h.ne_o hb
 have hsw: ∀(j b c:Nat),(swapL bs i k)[j]?=some (b,c)-> ∃j':Nat,bs[j']?=some (b,c)/\rows[j']?=(swapL rows i k)[j]?:=by
  intro j b c hj;rw [dsz bs i k _ _ hbi hbk] at hj;rw [dsz rows i k _ _ hri hrk];by_cases h1:j=k
  ·rw [Ya h1] at hj|-;exact ⟨i,by rw [hbi];exact hj,hri⟩
  ·rw [Yb h1] at hj|-;by_cases h2:j=i
   ·rw [Ya h2] at hj|-;exact ⟨k,by rw [hbk];exact hj,hrk⟩
   ·rw [Yb h2] at hj|-;exact ⟨j,hj,rfl⟩
 refine ⟨by rw [drz,drz];exact h.len,?_,fun j b c row hj hr=> ?_,?_⟩
 ·obtain ⟨co,h1,h2⟩:=h.outer;have hi:=(Array.getElem?_eq_some_iff.1 (h2 i _ _ _ hbi hri)).1;have hk:=(Array.getElem?_eq_some_iff.1 (h2 k _ _ _ hbk hrk)).1;refine ⟨_,enz (enz h1 i _) k _,fun j b c row hj hr=> ?_⟩;rw [dsz bs i k _ _ hbi hbk] at hj;rw [dsz rows i k _ _ hri hrk] at hr;by_cases h3:j=k
  ·subst h3;rw [Ya rfl] at hj hr;cases hj
   cases hr
   simp [hk]
  ·rw [Yb h3] at hj hr;rw [Array.getElem?_setIfInBounds_ne (Ne.symm h3)];by_cases h4:j=i
   ·subst h4;rw [Ya rfl] at hj hr;cases hj
    cases hr
    simp [hi]
   ·rw [Yb h4] at hj hr;rw [Array.getElem?_setIfInBounds_ne (Ne.symm h4)];exact h2 j b c row hj hr
 ·obtain ⟨j',hj',hr'⟩:=hsw j b c hj;rw [hr] at hr';obtain ⟨hc,cs,h1,h2⟩:=h.inner j' b c row hj' hr';exact ⟨hc,cs,bHz (bHz h1 (hne _ _ _ hj') _) (hne _ _ _ hj') _,h2⟩
 ·have:=(swapL_perm (bs.map Prod.fst) i k).nodup_iff.2 h.nodup;rwa [<-swapL_map] at this
structure RedSt (W wr:World) (g fb ab tb o:Nat) (wb:Int) (S S0:Nat->Prop) (m co L at_:Nat) (bs:List (Nat×Nat)) (rows:List (List Int)):Prop where
 mx:Mx wr o bs rows
 rd:Rd wr g fb ab tb o wb S0 m co (at_:Int)
 fd:Fd wr g wb (fpoly wb) S
 bsw:BS W wr g S0
 sb: ∀(i b c:Nat),bs[i]?=some (b,c)->S0 b
 so:S0 o
 s0: ∀k,S0 k->S k
 st:S tb
 len:rows.length=m
 each: ∀row,row∈rows->row.length=L
 tbw:W.heap.size<=tb
 ne:fb≠tb/\ab≠tb
namespace RedSt
variable {W wr w1 : World} {g fb ab tb o : Nat} {wb : Int} {S S0 : Nat -> Prop} {m co L at_ : Nat} {bs : List (Nat × Nat)} {rows : List (List Int)}
theorem ng (h:RedSt W wr g fb ab tb o wb S S0 m co L at_ bs rows):o≠g/\ ∀(i b c:Nat),bs[i]?=some (b,c)->b≠g:=by
 obtain ⟨cs,hc⟩:=h.fd.typed;exact h.mx.ne_g hc
theorem drewN (h:RedSt W wr g fb ab tb o wb S S0 m co L at_ bs rows) (n:Nat):RedSt W (wr.drewN n) g fb ab tb o wb S S0 m co L at_ bs rows:=
 ⟨h.mx.drewN n,h.rd.bs ((BS.refl _ _ _).drewN n),h.fd.drewN n,h.bsw.drewN n,h.sb,h.so,h.s0,h.st,h.len,h.each,h.tbw,h.ne⟩
theorem drew (h:RedSt W wr g fb ab tb o wb S S0 m co L at_ bs rows):RedSt W wr.drew g fb ab tb o wb S S0 m co L at_ bs rows:=h.drewN 1
theorem alloc (h:RedSt W wr g fb ab tb o wb S S0 m co L at_ bs rows) (x:Obj):RedSt W (wr.alloc x) g fb ab tb o wb S S0 m co L at_ bs rows:=
 ⟨h.mx.alloc x,h.rd.bs ((BS.refl _ _ _).alloc x),h.fd.alloc x,h.bsw.alloc x,h.sb,h.so,h.s0,h.st,h.len,h.each,h.tbw,h.ne⟩
theorem bb (h:RedSt W wr g fb ab tb o wb S S0 m co L at_ bs rows) (hf:Fd w1 g wb (fpoly wb) S) (hb:BB wr w1 g):RedSt W w1 g fb ab tb o wb S S0 m co L at_ bs rows:=
 ⟨h.mx.bb h.ng hb,h.rd.bs (BS.of_bb hb),hf,h.bsw.trans (BS.of_bb hb),h.sb,h.so,h.s0,h.st,h.len,h.each,h.tbw,h.ne⟩
theorem setI (h : RedSt W wr g fb ab tb o wb S S0 m co L at_ bs rows) {i b c : Nat} {row : List Int} (hb : bs[i]? = some (b, c)) (hr : rows[i]? = some row) (j : Nat) (x : Int) :
  RedSt W (wr.setCell ⟨b,j,none⟩ (.int .i64 x)) g fb ab tb o wb S S0 m co L at_ bs (rows.set i (row.set j x)):=by
 have hs:=h.sb _ _ _ hb;refine ⟨h.mx.set hb hr x,h.rd.bs ((BS.refl _ _ _).set (p:=⟨b,j,none⟩) (.inl hs) _),h.fd.set (q:=⟨b,j,none⟩) (h.s0 _ hs) _,h.bsw.set (p:=⟨b,j,none⟩) (.inl hs) _,h.sb,h.so,h.s0,h.st,by rw [List.length_set];exact h.len,fun r hr'=> ?_,h.tbw,h.ne⟩;rcases List.mem_or_eq_of_mem_set hr' with h1|h1
 ·exact h.each r h1
 ·rw [h1,List.length_set];exact h.each row (Zo hr)
theorem swap (h : RedSt W wr g fb ab tb o wb S S0 m co L at_ bs rows) {i k bi ci bk ck : Nat} (hbi : bs[i]? = some (bi, ci)) (hbk : bs[k]? = some (bk, ck)) :
  RedSt W ((wr.setCell ⟨o,i,none⟩ (.slice (some ⟨bk,0,none⟩) L ck)).setCell ⟨o,k,none⟩ (.slice (some ⟨bi,0,none⟩) L ci)) g fb ab tb o wb S S0 m co L at_ (swapL bs i k) (swapL rows i k):=by
 have hl:=h.mx.len;obtain ⟨ri,hri⟩: ∃r,rows[i]?=some r:=⟨_,Zf (by have:=(Zk hbi).1;omega)⟩;obtain ⟨rk,hrk⟩: ∃r,rows[k]?=some r:=⟨_,Zf (by have:=(Zk hbk).1;omega)⟩;have e1:=h.each ri (Zo hri);have e2:=h.each rk (Zo hrk);have hm:=h.mx.swap hbi hbk hri hrk;rw [e1,e2] at hm;have s1:BS wr ((wr.setCell ⟨o,i,none⟩ (.slice (some ⟨bk,0,none⟩) L ck)).setCell ⟨o,k,none⟩ (.slice (some ⟨bi,0,none⟩) L ci)) g S0:=(((BS.refl wr g S0).set (p:=⟨o,i,none⟩) (.inl h.so) _).set (p:=⟨o,k,none⟩) (.inl h.so) _);refine ⟨hm,h.rd.bs s1,(h.fd.set (q:=⟨o,i,none⟩) (h.s0 _ h.so) _).set (q:=⟨o,k,none⟩) (h.s0 _ h.so) _,h.bsw.trans s1,fun j b c hj=> ?_,h.so,h.s0,h.st,by rw [drz];exact h.len,fun r hr=>h.each r (swapL_mem _ _ _ _ hr),h.tbw,h.ne⟩;rw [dsz bs i k _ _ hbi hbk] at hj;by_cases h1:j=k
 ·rw [Ya h1] at hj;cases hj;exact h.sb _ _ _ hbi
 ·rw [Yb h1] at hj;by_cases h2:j=i
  ·rw [Ya h2] at hj;cases hj;exact h.sb _ _ _ hbk
  ·rw [Yb h2] at hj;exact h.sb _ _ _ hj
theorem clr (h:RedSt W wr g fb ab tb o wb S S0 m co L at_ bs rows) {rows':List (List Int)} (hm:Mx w1 o bs rows') (hf:Fd w1 g wb (fpoly wb) S) (hb:BS wr w1 g S0) (hl:rows'.length=m) (he: ∀row,row∈rows'->row.length=L):RedSt W w1 g fb ab tb o wb S S0 m co L at_ bs rows':=
 ⟨hm,h.rd.bs hb,hf,h.bsw.trans hb,h.sb,h.so,h.s0,h.st,hl,he,h.tbw,h.ne⟩
theorem setT (h:RedSt W wr g fb ab tb o wb S S0 m co L at_ bs rows) (z:Nat):RedSt W (wr.setCell ⟨tb,0,none⟩ (.int .i64 (z:Int))) g fb ab tb o wb S S0 m co L z bs rows:=by
 have hto:tb≠o:=fun e=>h.rd.tS (e▸h.so)
 have htb: ∀(i b c:Nat),bs[i]?=some (b,c)->b≠tb:=fun i b c hb e=>h.rd.tS (e▸h.sb _ _ _ hb)
 refine ⟨h.mx.move (Below.heap_setCell _ _ _ _ (Ne.symm hto)) (fun i b c hi=>Below.heap_setCell _ _ _ _ (htb i b c hi)),⟨bHz h.rd.f h.ne.1 _,bHz h.rd.a h.ne.2 _,cqz h.rd.t 0 _ rfl,h.rd.fS,h.rd.aS,h.rd.tS,h.rd.fg,h.rd.ag,h.rd.tg⟩,h.fd.set (q:=⟨tb,0,none⟩) h.st _,h.bsw.set (p:=⟨tb,0,none⟩) (.inr h.tbw) _,h.sb,h.so,h.s0,h.st,h.len,h.each,h.tbw,h.ne⟩
end RedSt
theorem dVz (a b:Nat) (ha:a<2^62) (hb:b<2^62):Go.bits .xor .i64 (a:Int) (b:Int)=((a^^^b:Nat):Int):=by
 have h:a^^^b<2^62:=Nat.xor_lt_two_pow ha hb;show IntKind.i64.wrap ((BitVec.ofInt 64 (a:Int)^^^BitVec.ofInt 64 (b:Int)).toNat:Int)=_;rw [BitVec.toNat_xor,ofInt64 a (by omega),ofInt64 b (by omega),IntKind.wrap_i64];omega
theorem dAz {wb:Int} (hw:wb=8\/wb=16):(fsize wb=256/\wb=8)\/(fsize wb=65536/\wb=16):=by
 rcases hw with rfl|rfl
 ·exact .inl ⟨rfl,rfl⟩
 ·exact .inr ⟨rfl,rfl⟩
theorem eJz {wb:Int} (hw:wb=8\/wb=16) {a b:Int} (ha:0<=a/\a<fsize wb) (hb:0<=b/\b<fsize wb):0<=Go.bits .xor .i64 a b/\Go.bits .xor .i64 a b<fsize wb:=by
 obtain ⟨x,rfl⟩: ∃x:Nat,a=x:=⟨a.toNat,by omega⟩;obtain ⟨y,rfl⟩: ∃y:Nat,b=y:=⟨b.toNat,by omega⟩;rcases dAz hw with ⟨e, -⟩|⟨e, -⟩<;>rw [e] at ha hb|-
 ·have:=Nat.xor_lt_two_pow (x:=x) (y:=y) (n:=8) (by omega) (by omega);rw [dVz x y (by omega) (by omega)];omega
 ·have:=Nat.xor_lt_two_pow (x:=x) (y:=y) (n:=16) (by omega) (by omega);rw [dVz x y (by omega) (by omega)];omega
def Good (wb:Int) (L:Nat) (row:List Int):Prop:=row.length=L/\ ∀x,x∈row->0<=x/\x<fsize wb
theorem zip_good {wb:Int} {L:Nat} (f:Int->Int->Int) {r p:List Int} (hr:Good wb L r) (hp:Good wb L p) (hf: ∀x y,(0<=x/\x<fsize wb)->(0<=y/\y<fsize wb)->0<=f x y/\f x y<fsize wb):Good wb L (List.zipWith f r p):=by
 refine ⟨by rw [List.length_zipWith,hr.1,hp.1,Nat.min_self],fun x hx=> ?_⟩;obtain ⟨i,hi,rfl⟩:=List.getElem_of_mem hx;rw [List.getElem_zipWith];exact hf _ _ (hr.2 _ (List.getElem_mem _)) (hp.2 _ (List.getElem_mem _))
theorem ffz {wb:Int} (hw:wb=8\/wb=16) (L c:Nat) (rows:List (List Int)) (at_:Nat) (h: ∀r,r∈rows->Good wb L r):(∀r,r∈(redStep wb c rows at_).1->Good wb L r)/\(redStep wb c rows at_).1.length=rows.length:=by
 unfold redStep;have hz:=dOz (nzB c) (rows.drop at_)
 generalize idxF (nzB c) (rows.drop at_)=z at *
 dsimp only;by_cases hneg:z<0
 ·rw [Ya hneg];exact ⟨h,rfl⟩
 ·rw [Yb hneg];rw [List.length_drop] at hz;have h1: ∀r,r∈swapL rows at_ (at_+z.toNat)->Good wb L r:=fun r hr=>h r (swapL_mem _ _ _ _ hr)
  have hl:=drz rows at_ (at_+z.toNat)
  generalize swapL rows at_ (at_+z.toNat)=r1 at *
  have hp:Good wb L (r1.getD at_ []):=by
   rw [Zm,Zf (show at_<r1.length by omega)];exact h1 _ (List.getElem_mem _)
  generalize r1.getD at_ [] =pr at *
  have hp2:Good wb L (List.zipWith (fun x _=>gmul wb x (ginv wb (pr.getD c 0))) pr pr):=zip_good _ hp hp (fun x y _ _=>bQz hw _ _)
  generalize List.zipWith (fun x _=>gmul wb x (ginv wb (pr.getD c 0))) pr pr=p2 at *
  refine ⟨fun r hr=> ?_,by rw [csz,List.length_set,hl]⟩;unfold clrAll at hr;rw [List.mem_mapIdx] at hr;obtain ⟨i,hi,rfl⟩:=hr
  have hg:Good wb L (r1.set at_ p2)[i] :=by
   rcases List.mem_or_eq_of_mem_set (List.getElem_mem hi) with h3|h3
   ·exact h1 _ h3
   ·rw [h3];exact hp2
  split
  ·exact hg
  ·exact zip_good _ hg hp2 (fun x y hx hy=>eJz hw hx (bQz hw _ _))
theorem redF_good {wb:Int} (hw:wb=8\/wb=16) (L:Nat): ∀(k c:Nat) (rows:List (List Int)) (at_:Nat),(∀r,r∈rows->Good wb L r)->(∀r,r∈(redF wb k c rows at_).1->Good wb L r)/\(redF wb k c rows at_).1.length=rows.length
 |0,_,rows,_,h=>⟨h,rfl⟩
 |k+1,c,rows,at_,h=>by
  unfold redF;split
  ·exact ⟨h,rfl⟩
  ·have h1:=ffz hw L c rows at_ h;have h2:=redF_good hw L k (c+1) _ (redStep wb c rows at_).2 h1.1;exact ⟨h2.1,h2.2.trans h1.2⟩
theorem efz {wb:Int} (hw:wb=8\/wb=16) (a:Int) (n:Nat):0<=gpow wb a n/\gpow wb a n<fsize wb:=by
 have hz:(0:Int)<fsize wb:=by rcases hw with rfl|rfl<;>decide
 unfold gpow;split
 ·rename_i h
  simp only [Bool.and_eq_true,inF,decide_eq_true_eq] at h;exact ⟨by omega,gpwN_lt hw (by omega) _⟩
 ·omega
theorem Raw1.calls (g fb : Nat) (wb : Int) (S : Nat -> Prop) (i j : Nat) (W : World) (hw : wb = 8 \/ wb = 16) (hF : Fd W g wb (fpoly wb) S) (hS : ∀ k, S k -> k < W.heap.size) (hb : W.heap[fb]? = some (.cells #[.pointer (some ⟨g, 0, none⟩)] 72 (0, 0))) (hi : i <= 100) (hj : j <= 100) :
  Calls Tryz.prog 183 #[.int .i64 (i:Int), .int .i64 (j:Int), .pointer (some ⟨fb,0,none⟩)] W fun e w'=>e= .returned (.int .i64 (gpow wb (i:Int) (j:Int)))/\Fd w' g wb (fpoly wb) S/\BB W w' g:=by
 have hc:W.cell? ⟨fb,0,none⟩=some (.pointer (some ⟨g,0,none⟩)):=(aaz hb 0).trans rfl;have HP:=Za (gf_Pow.calls g S wb (i:Int) j W (by omega) hw hF hS);clear hF hS hw hb;go_enter Tryz.func183,Tryz.ntmps183
 go_wp2_with (first|(go_at_call 122;refine HP.out.mono ?_;rintro e w3 ⟨rfl,q1,q2⟩))
 go_ret;exact ⟨rfl,q1,q2⟩
theorem fits.calls (g k m : Nat) (W : World) (h1 : 1 <= k) (h2 : 1 <= m) (h3 : k < 20) (h4 : m < 20) (h5 : k + m <= 20) :
  Calls Tryz.prog 119 #[.pointer (some ⟨g,0,none⟩), .int .i64 (k:Int), .int .i64 (m:Int)] W fun e w'=>e= .returned (.bool true)/\w'=W:=by
 have e1:decide ((1:Int)<=(k:Int))=true:=by simp;omega
 have e2:decide ((1:Int)<=(m:Int))=true:=by simp;omega
 have e3:decide ((k:Int)<20)=true:=by simp;omega
 have e4:decide ((m:Int)<20)=true:=by simp;omega
 have e5:(k:Int)+(m:Int)<=20:=by omega
 have e6:wrap64 ((k:Int)+(m:Int))=(k:Int)+(m:Int):=by unfold wrap64;omega
 go_enter Tryz.func119,Tryz.ntmps119;go_wp2;go_ret;simp
theorem Isal1.calls (g fb : Nat) (wb : Int) (S : Nat -> Prop) (i j : Nat) (W : World) (hw : wb = 8 \/ wb = 16) (hF : Fd W g wb (fpoly wb) S) (hS : ∀ k, S k -> k < W.heap.size) (hb : W.heap[fb]? = some (.cells #[.pointer (some ⟨g, 0, none⟩)] 72 (0, 0))) (hi : i <= 100) (hj : j <= 100) :
  Calls Tryz.prog 121 #[.int .i64 (i:Int), .int .i64 (j:Int), .pointer (some ⟨fb,0,none⟩)] W fun e w'=>e= .returned (.int .i64 (gpow wb (gpow wb 2 (i:Int)) (j:Int)))/\Fd w' g wb (fpoly wb) S/\BB W w' g:=by
 have hc:W.cell? ⟨fb,0,none⟩=some (.pointer (some ⟨g,0,none⟩)):=(aaz hb 0).trans rfl
 have hne:fb≠g:=by
  obtain ⟨gcs,hg⟩:=Fd.cells hF;rintro rfl;rw [hb] at hg;injection hg with hg
  injection hg with _ hg
  exact Yf hg (by decide)
 have HP:=Za (gf_Pow.calls g S wb 2 i W.drew (by omega) hw hF.drew hS);have HQ:=Za (fun (w3:World) (q1:Fd w3 g wb (fpoly wb) S) (q2:BB W.drew w3 g)=>gf_Pow.calls g S wb (gpow wb 2 i) j w3 (by omega) hw q1 (fun k hk=>Zp (hS k hk) q2.size));have HC:=Za (show∀w3,BB W.drew w3 g->w3.cell? ⟨fb,0,none⟩=some (.pointer (some ⟨g,0,none⟩)) from fun w3 q=>(aaz ((q.block fb (aPz hb) hne).trans hb) 0).trans rfl);clear hF hS hw hb hne;go_enter Tryz.func121,Tryz.ntmps121;go_wp2;refine clz (n:=7) (S:=fun w'=>w'.cell? ⟨fb,0,none⟩=some (.pointer (some ⟨g,0,none⟩))) (ds:= [5]) (bA 7 0) kr_ rfl rfl (hc) (fun hHeld=> ?_);refine pu_ 2 8 4 ?_;refine pu_ 4 10 20 ?_;refine tk_ 0 6 21 hHeld ?_;refine tk_ 1 7 23 hHeld ?_;refine one_ (i:=3) (N:=some 9) (bA 7 31) rfl rfl kr_ (by decide) (fun K hK=> ?_);refine goes_ Tryz.func122 kr_ rfl #[.pointer (some ⟨g,0,none⟩), .int .i64 2, .int .i64 (i:Int)] (by rfl) rfl rfl am_ ?_
 with_reducible refine (HP.out).mono ?_
 rintro e w3 ⟨rfl,q1,q2⟩;refine ⟨_,rfl,?_⟩;have hc3:=HC.out w3 q2;have HQ3:=Za (HQ.out w3 q1 q2);have Q2:=Za q2;clear q1 q2;refine hK.out _ _ (hc3) (fun hHeld=> ?_);clear hK K;refine norm_ (a':= ?_) ?_ ?_;rotate_left
 ·show Act.put _ (some 9) _=_;simp only [Act.put,Zg,Zh,Zi,i64_w,i32_w];rfl
 refine last_ (i:=5) (N:=some 11) (bA 7 63) rfl rfl kr_ (by decide) (fun K hK=> ?_);refine goes_ Tryz.func122 kr_ rfl #[.pointer (some ⟨g,0,none⟩), .int .i64 (gpow wb 2 (i:Int)), .int .i64 (j:Int)] (by rfl) rfl rfl am_ ?_
 with_reducible refine (HQ3.out).mono ?_
 rintro e w4 ⟨rfl,q1,q2⟩;refine ⟨_,rfl,?_⟩;refine hK.out _ _ ?_;clear hK K;refine norm_ (a':= ?_) ?_ ?_;rotate_left
 ·show Act.put _ (some 11) _=_;simp only [Act.put,Zg,Zh,Zi,i64_w,i32_w];rfl
 refine pu_ 6 5 127 ?_;refine done_ kr_ ?_;go_wp2;go_ret;exact ⟨rfl,q1,⟨q2.os.trans Q2.out.os,q2.tape.trans Q2.out.tape,q2.output.trans Q2.out.output,Zt Q2.out.size q2.size,fun i hi hg=>(q2.block i (Zp hi Q2.out.size) hg).trans (Q2.out.block i hi hg)⟩⟩
def madeF (tf:Nat->Nat->Int) (rows cols:Nat):List (List Int):=(List.range rows).map fun i=>(List.range cols).map (tf i)
theorem e1z (tf:Nat->Nat->Int) (k cols:Nat):madeF tf (k+1) cols=madeF tf k cols++ [(List.range cols).map (tf k)] :=by simp [madeF,List.range_succ]
theorem d5z (f:Nat->Int) (n:Nat):(List.range (n+1)).map f=(List.range n).map f++ [f n] :=by simp [List.range_succ]
theorem fb_ne {W:World} {g fb:Nat} {wb p:Int} {S:Nat->Prop} {cs:Array Value} {t:Nat} (hF:Fd W g wb p S) (hb:W.heap[fb]?=some (.cells cs t (0,0))) (ht:t≠172):fb≠g:=by
 obtain ⟨gcs,hg⟩:=Fd.cells hF;rintro rfl;rw [hb] at hg;injection hg with hg
 injection hg with _ hg
 exact ht hg
theorem Fd.appended {X Y:World} {g:Nat} {wb p:Int} {S:Nat->Prop} {v v1:Value} (h:Fd X g wb p (fun q=>S q\/some q=v.ownBlock)) (hg:X.grownBy Y v.ownBlock) (hat:v1.ownBlock=v.ownBlock\/ ∃b,v1.ownBlock=some b/\X.heap.size<=b):Fd Y g wb p (fun q=>S q\/some q=v1.ownBlock):=by
 refine (Fd.grow h (fun k e=> .inr e.symm) hg).thin (fun q hq hs=> ?_);rcases hs with hs|hs
 ·exact .inl (.inl hs)
 ·rcases hat with hat|⟨bb,hat,hbb⟩
  ·exact .inl (.inr (hs.trans hat))
  ·rw [hat] at hs;cases hs;exact .inr hbb
theorem S_join {wq w2 : World} {g B e t gt : Nat} {gcs : Array Value} {u uv : Value} {xs : List (List Int)} {R : List Int} (HO : Kd.S (dM e .i64) t wq B (fun _ => True) u xs) (hg : wq.heap[g]? = some (.cells gcs gt (0, 0))) (ht : ∀ q, q ∈ t :: (dM e .i64).E -> q ≠ gt) (hb : BB wq w2 g) (hR : (Kd.int .i64).R e w2 wq.heap.size (fun _ => True) uv R) (hB : B <= wq.heap.size) :
    Kd.S (dM e .i64) t w2 B (fun k'=>True/\ ¬wq.heap.size<=k') u xs/\(dM e .i64).M w2 B (fun k'=>wq.heap.size<=k') R [uv] /\(∀k',wq.heap.size<=k'->True/\some k'≠u.ownBlock):=
  ⟨Kd.cGz (Kd.ebz (Kd.bFz (Kd.eoz HO hg ht)) (fun q hq=>hb.block q hq.2.2.1 hq.1.2)) (fun q hq=>⟨trivial,by have:=hq.2.2.1;omega⟩),
   ⟨_,rfl,Kd.bDz (Kd.aJz (Kd.bTz hR) (fun q hq=>hq.2.1)) hB⟩,
   fun q hq=>⟨trivial,fun e=>by have:=Kd.R_lt (Kd.S_R HO) q e.symm;omega⟩⟩
theorem madeRaw.calls (g fb : Nat) (wb : Int) (S : Nat -> Prop) (rows cols : Nat) (W : World) (hw : wb = 8 \/ wb = 16) (hF : Fd W g wb (fpoly wb) S) (hS : ∀ k, S k -> k < W.heap.size) (hb : W.heap[fb]? = some (.cells #[.pointer (some ⟨g, 0, none⟩)] 72 (0, 0))) (hr : rows <= 100) (hc : cols <= 100) :
  Calls Tryz.prog 120 #[.int .i64 (rows:Int), .int .i64 (cols:Int), .func (.func 183) #[] #[.pointer (some ⟨fb,0,none⟩)]] W fun e w'=> ∃v,e= .returned v/\Kd.S (dM 3 .i64) 57 w' W.heap.size (fun _=>True) v (madeF (fun (i j:Nat)=>gpow wb (i:Int) (j:Int)) rows cols)/\Fd w' g wb (fpoly wb) S/\BB W w' g:=by
 have HW:=Za hw;have HS:=Za hS;have HB:=Za hb;have HNE:=Za (fb_ne hF hb (by decide));have HF:=Za (show Fd W g wb (fpoly wb) (fun q=>S q\/some q=(Value.slice none 0 0).ownBlock) from hF.thin (fun q _ hs=>hs.elim id (fun e=>by simp [Value.ownBlock] at e)));obtain ⟨tf,htf⟩: ∃tf:Nat->Nat->Int,(fun (i j:Nat)=>gpow wb (i:Int) (j:Int))=tf:=⟨_,rfl⟩;rw [htf]
 have HT:=Za (show∀(i j:Nat) (S':Nat->Prop) (w:World),Fd w g wb (fpoly wb) S'->(∀k,S' k->k<w.heap.size)->BB W w g->i<=100->j<=100->Calls Tryz.prog 183 #[.int .i64 (i:Int), .int .i64 (j:Int), .pointer (some ⟨fb,0,none⟩)] w fun e w'=>e= .returned (.int .i64 (tf i j))/\Fd w' g wb (fpoly wb) S'/\BB w w' g by
  intro i j S' w h1 h2 h3 h4 h5;subst htf
  exact Raw1.calls g fb wb S' i j w hw h1 h2 ((h3.block fb (aPz hb) (fb_ne hF hb (by decide))).trans hb) h4 h5)
 clear hw hF hS hb htf;go_enter Tryz.func120,Tryz.ntmps120;go_wp2
 go_loopw [7,12] (fun v i wr=> ∃k:Nat,k<=rows/\i= .int .i64 (k:Int)/\Aside0 (Kd.S (dM 3 .i64) 57 wr W.heap.size (fun _=>True) v (madeF tf k cols))/\Aside0 (Fd wr g wb (fpoly wb) (fun q=>S q\/some q=v.ownBlock))/\Aside0 (BB W wr g)) (fun _ i _=>rows - (intOf i).toNat)
 case atStart=>exact ⟨0,Nat.zero_le _,rfl,⟨Kd.S_nil _ _ _ _ _⟩,HF,⟨BB.refl _ _⟩⟩
 clear HF;obtain ⟨wq,rfl⟩: ∃wq,wq=wr:=⟨_,rfl⟩;obtain ⟨k,hk,rfl,HO,HF,HBB⟩:=hrel;by_cases hlt:k<rows
 ·have HF2:=Za (show Fd wq g wb (fpoly wb) (fun q=>(S q\/some q=u7.ownBlock)\/some q=(Value.slice none 0 0).ownBlock) from HF.out.thin (fun q _ hs=>hs.elim id (fun e=>by simp [Value.ownBlock] at e)));go_wp2
  go_loopw [9,16] (fun u j w2=> ∃n:Nat,n<=cols/\j= .int .i64 (n:Int)/\Aside0 ((Kd.int .i64).R 3 w2 wq.heap.size (fun _=>True) u ((List.range n).map (tf k)))/\Aside0 (Fd w2 g wb (fpoly wb) (fun q=>(S q\/some q=u7.ownBlock)\/some q=u.ownBlock))/\Aside0 (BB wq w2 g)) (fun _ j _=>cols - (intOf j).toNat)
  case atStart=>exact ⟨0,Nat.zero_le _,rfl,⟨Kd.R_nil _ _ _ _ _⟩,HF2,⟨BB.refl _ _⟩⟩
  clear HF2;obtain ⟨w2,rfl⟩: ∃w2,w2=wr:=⟨_,rfl⟩;obtain ⟨n,hn,rfl,HR,HF2,HB2⟩:=hrel;by_cases hlt2:n<cols
  ·have hSS : ∀ q, ((S q \/ some q = u7.ownBlock) \/ some q = u9.ownBlock) -> q < w2.heap.size := by
    have s1:=HB2.out.size;have s2:=HBB.out.size;rintro q ((h|h)|h)
    ·have:=HS.out q h;omega
    ·have:=Kd.R_lt (Kd.S_R HO.out) q h.symm;omega
    ·exact Kd.R_lt HR.out q h.symm
   have HTC:=Za (HT.out k n _ w2 HF2.out hSS (HBB.out.trans HB2.out) (by omega) (by omega));have HSZ:=Za (show wq.heap.size<=w2.heap.size from HB2.out.size);obtain ⟨gcs,hgcs⟩:=Fd.cells HF2.out;have HR3:=Za (show∀w3,BB w2 w3 g->(Kd.int .i64).R 3 w3 wq.heap.size (fun _=>True) u9 ((List.range n).map (tf k)) from fun w3 hb3=>Kd.aJz (Kd.dpz (Kd.c5z HR.out hgcs (by decide)) (fun q hq hlt=>hb3.block q hlt hq.2)) (fun _ _=>trivial));have HLL:=Za (show ((List.range n).map (tf k)).length<=100 by simp;omega);have HRS:=Za (d5z (tf k) n);generalize (List.range n).map (tf k)=pre at HR HR3 HLL HRS;generalize tf k n=z at HTC HRS;clear hSS hgcs
   go_wp2_with fail
   refine HTC.out.mono ?_;rintro e w3 ⟨rfl,q1,q2⟩;have HR4:=Za (HR3.out w3 q2);have HF3:=Za q1;have HB3:=Za (HB2.out.trans q2);have HZ3:=Za (Zt HSZ.out q2.size);clear q1 q2 HTC HR3
   go_wp2_with ((with_reducible refine anz (b:= .append) (xs:= #[.tmp 19, .tmp 24]) rfl ?_);go_must (at_builtin;refine Kd.bxz (Kd.int .i64) (w0:=w3) wq.heap.size rfl (.tmp 19) (.tmp 24) 57 3 (.int .i64 0) 8 rfl Tryz.underlying57 kr_ rfl (by decide) (by decide) _ _ z [.int .i64 z] (fun _=>True) (fun _=>False) rfl rfl rfl (fun _ h=>h.elim) (fun _ _=>trivial) HR4.out (Zw _ _) HZ3.out ?aL ?_;(case aL=>have:=HLL.out;omega));intro v2 w4 ho2 hb2 hg2 hat2;have HO2:=Za ho2;have HB4:=Za hb2;have HG2:=Za (show w3.grownBy w4 u9.ownBlock from hg2);have HA2:=Za (show v2.ownBlock=u9.ownBlock\/ ∃b,v2.ownBlock=some b/\w3.heap.size<=b from hat2);clear ho2 hb2 hg2 hat2)
   go_roundw
   case rel=>exact ⟨n+1,by omega,by go_num,⟨by rw [HRS.out];exact HO2.out⟩,⟨Fd.appended HF3.out HG2.out HA2.out⟩,⟨HB3.out.os▸HB4.out.os,HB3.out.tape▸HB4.out.tape,HB3.out.output▸HB4.out.output,Zt HB3.out.size HB4.out.size,fun i hi hg=>(HB4.out.block i hi).trans (HB3.out.block i hi hg)⟩⟩
   case measure=>simp [intOf];omega
  ·obtain rfl:n=cols:=by omega
   obtain ⟨gcs,hgcs⟩:=Fd.cells HF.out;have hj:=S_join HO.out hgcs (by decide) HB2.out HR.out HBB.out.size;have HLZ:=Za (show (madeF tf k n).length<=1000 by simp [madeF];omega);obtain ⟨va,vc,rfl⟩:=Kd.aRz HR.out;have HMS:=Za (e1z tf k n)
   generalize ((List.range n).map (tf k)).length=nn at *
   generalize (List.range n).map (tf k)=R at hj HMS;have HS1:=Za hj.1;have HM1:=Za hj.2.1;have HOK:=Za hj.2.2;have HSW:=Za (show W.heap.size<=w2.heap.size from Zt HBB.out.size HB2.out.size);have HF5:=Za (show Fd w2 g wb (fpoly wb) (fun q=>S q\/some q=u7.ownBlock) from HF2.out.thin (fun q _ hs=> .inl hs));clear hj hgcs HF2 HR
   go_wp2_with ((with_reducible refine anz (b:= .append) (xs:= #[.tmp 27, .tmp 29]) rfl ?_);go_must (at_builtin;refine Kd.bLz (dM 3 .i64) (w0:=w2) W.heap.size rfl (.tmp 27) (.tmp 29) 69 57 (.slice none 0 0) 24 rfl Tryz.underlying69 kr_ rfl (by decide) (by decide) _ _ R [.slice va nn vc] (fun _=>True) (fun k'=>wq.heap.size<=k') rfl rfl HM1.out HOK.out (fun _ _=>trivial) HS1.out (Zw _ _) HSW.out ?aL ?_;(case aL=>have:=HLZ.out;omega));intro v2 w4 ho2 hb2 hg2 hat2;have HO2:=Za ho2;have HB4:=Za hb2;have HG2:=Za (show w2.grownBy w4 u7.ownBlock from hg2);have HA2:=Za (show v2.ownBlock=u7.ownBlock\/ ∃b,v2.ownBlock=some b/\w2.heap.size<=b from hat2);clear ho2 hb2 hg2 hat2)
   go_roundw
   case rel=>exact ⟨k+1,by omega,by go_num,⟨by rw [HMS.out];exact HO2.out⟩,⟨Fd.appended HF5.out HG2.out HA2.out⟩,⟨⟨HB4.out.os.trans (HB2.out.os.trans HBB.out.os),HB4.out.tape.trans (HB2.out.tape.trans HBB.out.tape),HB4.out.output.trans (HB2.out.output.trans HBB.out.output),Zt HSW.out HB4.out.size,fun i hi hg=>(HB4.out.block i hi).trans ((HB2.out.block i (Zp hi HBB.out.size) hg).trans (HBB.out.block i hi hg))⟩⟩⟩
   case measure=>simp [intOf];omega
 ·obtain rfl:k=rows:=by omega
  have HO2:=Za HO.out;go_wp2;go_ret;exact ⟨_,rfl,HO2.out,HF.out.thin (fun q _ hs=> .inl hs),HBB.out⟩
theorem madeIsal.calls (g fb : Nat) (wb : Int) (S : Nat -> Prop) (rows cols : Nat) (W : World) (hw : wb = 8 \/ wb = 16) (hF : Fd W g wb (fpoly wb) S) (hS : ∀ k, S k -> k < W.heap.size) (hb : W.heap[fb]? = some (.cells #[.pointer (some ⟨g, 0, none⟩)] 72 (0, 0))) (hr : rows <= 100) (hc : cols <= 100) :
  Calls Tryz.prog 120 #[.int .i64 (rows:Int), .int .i64 (cols:Int), .func (.func 121) #[] #[.pointer (some ⟨fb,0,none⟩)]] W fun e w'=> ∃v,e= .returned v/\Kd.S (dM 3 .i64) 57 w' W.heap.size (fun _=>True) v (madeF (fun (i j:Nat)=>gpow wb (gpow wb 2 (i:Int)) (j:Int)) rows cols)/\Fd w' g wb (fpoly wb) S/\BB W w' g:=by
 have HW:=Za hw;have HS:=Za hS;have HB:=Za hb;have HNE:=Za (fb_ne hF hb (by decide));have HF:=Za (show Fd W g wb (fpoly wb) (fun q=>S q\/some q=(Value.slice none 0 0).ownBlock) from hF.thin (fun q _ hs=>hs.elim id (fun e=>by simp [Value.ownBlock] at e)));obtain ⟨tf,htf⟩: ∃tf:Nat->Nat->Int,(fun (i j:Nat)=>gpow wb (gpow wb 2 (i:Int)) (j:Int))=tf:=⟨_,rfl⟩;rw [htf]
 have HT:=Za (show∀(i j:Nat) (S':Nat->Prop) (w:World),Fd w g wb (fpoly wb) S'->(∀k,S' k->k<w.heap.size)->BB W w g->i<=100->j<=100->Calls Tryz.prog 121 #[.int .i64 (i:Int), .int .i64 (j:Int), .pointer (some ⟨fb,0,none⟩)] w fun e w'=>e= .returned (.int .i64 (tf i j))/\Fd w' g wb (fpoly wb) S'/\BB w w' g by
  intro i j S' w h1 h2 h3 h4 h5;subst htf
  exact Isal1.calls g fb wb S' i j w hw h1 h2 ((h3.block fb (aPz hb) (fb_ne hF hb (by decide))).trans hb) h4 h5)
 clear hw hF hS hb htf;go_enter Tryz.func120,Tryz.ntmps120;go_wp2
 go_loopw [7,12] (fun v i wr=> ∃k:Nat,k<=rows/\i= .int .i64 (k:Int)/\Aside0 (Kd.S (dM 3 .i64) 57 wr W.heap.size (fun _=>True) v (madeF tf k cols))/\Aside0 (Fd wr g wb (fpoly wb) (fun q=>S q\/some q=v.ownBlock))/\Aside0 (BB W wr g)) (fun _ i _=>rows - (intOf i).toNat)
 case atStart=>exact ⟨0,Nat.zero_le _,rfl,⟨Kd.S_nil _ _ _ _ _⟩,HF,⟨BB.refl _ _⟩⟩
 clear HF;obtain ⟨wq,rfl⟩: ∃wq,wq=wr:=⟨_,rfl⟩;obtain ⟨k,hk,rfl,HO,HF,HBB⟩:=hrel;by_cases hlt:k<rows
 ·have HF2:=Za (show Fd wq g wb (fpoly wb) (fun q=>(S q\/some q=u7.ownBlock)\/some q=(Value.slice none 0 0).ownBlock) from HF.out.thin (fun q _ hs=>hs.elim id (fun e=>by simp [Value.ownBlock] at e)));go_wp2
  go_loopw [9,16] (fun u j w2=> ∃n:Nat,n<=cols/\j= .int .i64 (n:Int)/\Aside0 ((Kd.int .i64).R 3 w2 wq.heap.size (fun _=>True) u ((List.range n).map (tf k)))/\Aside0 (Fd w2 g wb (fpoly wb) (fun q=>(S q\/some q=u7.ownBlock)\/some q=u.ownBlock))/\Aside0 (BB wq w2 g)) (fun _ j _=>cols - (intOf j).toNat)
  case atStart=>exact ⟨0,Nat.zero_le _,rfl,⟨Kd.R_nil _ _ _ _ _⟩,HF2,⟨BB.refl _ _⟩⟩
  clear HF2;obtain ⟨w2,rfl⟩: ∃w2,w2=wr:=⟨_,rfl⟩;obtain ⟨n,hn,rfl,HR,HF2,HB2⟩:=hrel;by_cases hlt2:n<cols
  ·have hSS : ∀ q, ((S q \/ some q = u7.ownBlock) \/ some q = u9.ownBlock) -> q < w2.heap.size := by
    have s1:=HB2.out.size;have s2:=HBB.out.size;rintro q ((h|h)|h)
    ·have:=HS.out q h;omega
    ·have:=Kd.R_lt (Kd.S_R HO.out) q h.symm;omega
    ·exact Kd.R_lt HR.out q h.symm
   have HTC:=Za (HT.out k n _ w2 HF2.out hSS (HBB.out.trans HB2.out) (by omega) (by omega));have HSZ:=Za (show wq.heap.size<=w2.heap.size from HB2.out.size);obtain ⟨gcs,hgcs⟩:=Fd.cells HF2.out;have HR3:=Za (show∀w3,BB w2 w3 g->(Kd.int .i64).R 3 w3 wq.heap.size (fun _=>True) u9 ((List.range n).map (tf k)) from fun w3 hb3=>Kd.aJz (Kd.dpz (Kd.c5z HR.out hgcs (by decide)) (fun q hq hlt=>hb3.block q hlt hq.2)) (fun _ _=>trivial));have HLL:=Za (show ((List.range n).map (tf k)).length<=100 by simp;omega);have HRS:=Za (d5z (tf k) n);generalize (List.range n).map (tf k)=pre at HR HR3 HLL HRS;generalize tf k n=z at HTC HRS;clear hSS hgcs
   go_wp2_with fail
   refine HTC.out.mono ?_;rintro e w3 ⟨rfl,q1,q2⟩;have HR4:=Za (HR3.out w3 q2);have HF3:=Za q1;have HB3:=Za (HB2.out.trans q2);have HZ3:=Za (Zt HSZ.out q2.size);clear q1 q2 HTC HR3
   go_wp2_with ((with_reducible refine anz (b:= .append) (xs:= #[.tmp 19, .tmp 24]) rfl ?_);go_must (at_builtin;refine Kd.bxz (Kd.int .i64) (w0:=w3) wq.heap.size rfl (.tmp 19) (.tmp 24) 57 3 (.int .i64 0) 8 rfl Tryz.underlying57 kr_ rfl (by decide) (by decide) _ _ z [.int .i64 z] (fun _=>True) (fun _=>False) rfl rfl rfl (fun _ h=>h.elim) (fun _ _=>trivial) HR4.out (Zw _ _) HZ3.out ?aL ?_;(case aL=>have:=HLL.out;omega));intro v2 w4 ho2 hb2 hg2 hat2;have HO2:=Za ho2;have HB4:=Za hb2;have HG2:=Za (show w3.grownBy w4 u9.ownBlock from hg2);have HA2:=Za (show v2.ownBlock=u9.ownBlock\/ ∃b,v2.ownBlock=some b/\w3.heap.size<=b from hat2);clear ho2 hb2 hg2 hat2)
   go_roundw
   case rel=>exact ⟨n+1,by omega,by go_num,⟨by rw [HRS.out];exact HO2.out⟩,⟨Fd.appended HF3.out HG2.out HA2.out⟩,⟨HB3.out.os▸HB4.out.os,HB3.out.tape▸HB4.out.tape,HB3.out.output▸HB4.out.output,Zt HB3.out.size HB4.out.size,fun i hi hg=>(HB4.out.block i hi).trans (HB3.out.block i hi hg)⟩⟩
   case measure=>simp [intOf];omega
  ·obtain rfl:n=cols:=by omega
   obtain ⟨gcs,hgcs⟩:=Fd.cells HF.out;have hj:=S_join HO.out hgcs (by decide) HB2.out HR.out HBB.out.size;have HLZ:=Za (show (madeF tf k n).length<=1000 by simp [madeF];omega);obtain ⟨va,vc,rfl⟩:=Kd.aRz HR.out;have HMS:=Za (e1z tf k n)
   generalize ((List.range n).map (tf k)).length=nn at *
   generalize (List.range n).map (tf k)=R at hj HMS;have HS1:=Za hj.1;have HM1:=Za hj.2.1;have HOK:=Za hj.2.2;have HSW:=Za (show W.heap.size<=w2.heap.size from Zt HBB.out.size HB2.out.size);have HF5:=Za (show Fd w2 g wb (fpoly wb) (fun q=>S q\/some q=u7.ownBlock) from HF2.out.thin (fun q _ hs=> .inl hs));clear hj hgcs HF2 HR
   go_wp2_with ((with_reducible refine anz (b:= .append) (xs:= #[.tmp 27, .tmp 29]) rfl ?_);go_must (at_builtin;refine Kd.bLz (dM 3 .i64) (w0:=w2) W.heap.size rfl (.tmp 27) (.tmp 29) 69 57 (.slice none 0 0) 24 rfl Tryz.underlying69 kr_ rfl (by decide) (by decide) _ _ R [.slice va nn vc] (fun _=>True) (fun k'=>wq.heap.size<=k') rfl rfl HM1.out HOK.out (fun _ _=>trivial) HS1.out (Zw _ _) HSW.out ?aL ?_;(case aL=>have:=HLZ.out;omega));intro v2 w4 ho2 hb2 hg2 hat2;have HO2:=Za ho2;have HB4:=Za hb2;have HG2:=Za (show w2.grownBy w4 u7.ownBlock from hg2);have HA2:=Za (show v2.ownBlock=u7.ownBlock\/ ∃b,v2.ownBlock=some b/\w2.heap.size<=b from hat2);clear ho2 hb2 hg2 hat2)
   go_roundw
   case rel=>exact ⟨k+1,by omega,by go_num,⟨by rw [HMS.out];exact HO2.out⟩,⟨Fd.appended HF5.out HG2.out HA2.out⟩,⟨⟨HB4.out.os.trans (HB2.out.os.trans HBB.out.os),HB4.out.tape.trans (HB2.out.tape.trans HBB.out.tape),HB4.out.output.trans (HB2.out.output.trans HBB.out.output),Zt HSW.out HB4.out.size,fun i hi hg=>(HB4.out.block i hi).trans ((HB2.out.block i (Zp hi HBB.out.size) hg).trans (HBB.out.block i hi hg))⟩⟩⟩
   case measure=>simp [intOf];omega
 ·obtain rfl:k=rows:=by omega
  have HO2:=Za HO.out;go_wp2;go_ret;exact ⟨_,rfl,HO2.out,HF.out.thin (fun q _ hs=> .inl hs),HBB.out⟩
end Go.Proofs.Xc
end
section
namespace Go.Proofs.Xc
open Go.RowKit Go.Proofs.Pw Go.Proofs.Pl Go.Proofs.Pm
attribute [local go_sem] a7z a8z bjz bkz aZz a0z a9z baz
open Go.Maps Go.WideMaps
def cauM (wb:Int) (x y:List Int):List (List Int):=x.map fun a=>y.map fun b=>ginv wb (Go.bits .xor .i64 a b)
theorem Of.calls (g : Nat) (wb : Int) (S : Nat -> Prop) (A B : Option Addr) (ca cb : Nat) (x y : List Int) (W : World) (hw : wb = 8 \/ wb = 16) (hF : Fd W g wb (fpoly wb) S) (hS : ∀ k, S k -> k < W.heap.size)
  (hx:Kd.F (Kd.int .i64) W (NotG g) A x.length x) (hy:Kd.F (Kd.int .i64) W (NotG g) B y.length y) (hca:x.length<=ca) (hcb:y.length<=cb) (hx1:1<=x.length) (hx2:x.length<=20) (hy1:1<=y.length) (hy2:y.length<=20) (hr: ∀a,a∈x++y->0<=a/\a<fsize wb) (hnd:(x++y).Nodup):
  Calls Tryz.prog 117 #[.pointer (some ⟨g,0,none⟩), .slice A x.length ca, .slice B y.length cb] W fun e w'=> ∃v,e= .returned (.tuple #[v, .int .i64 0])/\Kd.S (dM 3 .i64) 57 w' W.heap.size (fun _=>True) v (cauM wb x y)/\Fd w' g wb (fpoly wb) S/\BB W w' g:=by
 have HW:=Za hw;have HF:=Za hF;have HS:=Za hS;have HX:=Za hx;have HY:=Za hy;have HR:=Za hr;have HND:=Za hnd;have HCA:=Za hca;have HCB:=Za hcb;have hwi1:btz.f (x.length:Int)=some true:=by unfold btz.f;rw [Ya (by omega)];simp;omega
 have hwi2:btz.f (y.length:Int)=some true:=by unfold btz.f;rw [Ya (by omega)];simp;omega
 have HW1:=Za hwi1;have HW2:=Za hwi2;obtain ⟨nx,hnx⟩: ∃n,x.length=n:=⟨_,rfl⟩;obtain ⟨ny,hny⟩: ∃n,y.length=n:=⟨_,rfl⟩;have HNX:=Za hnx;have HNY:=Za hny;rw [hnx] at hx1 hx2 HW1|-;rw [hny] at hy1 hy2 HW2|-;have hmm:= @run_makeMap Tryz.prog;clear hw hF hS hx hy hr hnd hwi1 hwi2 hnx hny hca hcb;go_enter Tryz.func117,Tryz.ntmps117
 go_wp2_with fail
 refine (btz.calls (nx:Int) true _ HW1.out).mono ?_;rintro e w1 ⟨rfl,n1,rfl⟩
 go_wp2_with fail
 refine (btz.calls (ny:Int) true _ HW2.out).mono ?_;rintro e w2 ⟨rfl,n2,rfl⟩;have HB0:=Za (show Below W.heap.size W ((W.drewN n1).drewN n2) from aSz (aSz (Zw _ _) _) _);have hs0:W.heap.size=((W.drewN n1).drewN n2).heap.size:=rfl;generalize (W.drewN n1).drewN n2=w0 at HB0 hs0|-;have HM0:=Za (MapSet.made w0);have HB1:=Za (show Below W.heap.size W (w0.alloc (.map #[] 0)) from HB0.out.trans (hs0▸alz (Zw _ _) _));have hxw:=Kd.F_now (Kd.cEz HX.out HB1.out);have hyw:=Kd.F_now (Kd.cEz HY.out HB1.out);have hblk:((w0.alloc (.map #[] 0)).alloc (.cells #[.slice A nx ca, .slice B ny cb] 57)).heap[w0.heap.size+1]?=some (.cells #[.slice A nx ca, .slice B ny cb] 57 (0,0)):=bBz _ _ _ (by simp);have hC2:=C_two (e:=3) (by rw [HNX.out,HNY.out];exact hblk) (Kd.azz hxw (alz (Zw _ _) _)) HCA.out (Kd.azz hyw (alz (Zw _ _) _)) HCB.out;have hcc:=concat_i.calls (some ⟨w0.heap.size+1,0,none⟩) 2 [x,y] _ hC2 (by simp) (by have:=HNX.out;have:=HNY.out;simp;omega)
 rw [show [x,y].flatten=x++y by simp] at hcc;have HCC:=Za hcc;have HM1:=Za (HM0.out.below (alz (Zw _ _) (.cells #[.slice A nx ca, .slice B ny cb] 57)));have HB2:=Za (show Below W.heap.size W ((w0.alloc (.map #[] 0)).alloc (.cells #[.slice A nx ca, .slice B ny cb] 57)) from HB1.out.trans ((alz (Zw _ _) _).mono HB1.out.size));have HMB:=Za (show W.heap.size<=w0.heap.size from HB0.out.size);obtain ⟨nl,hnl⟩: ∃nl,nx+ny=nl:=⟨_,rfl⟩;have hll:(x++y).length=nl:=by rw [List.length_append,HNX.out,HNY.out,hnl]
 have hnl40:nl<=40:=by omega
 obtain ⟨l,hl⟩: ∃l,x++y=l:=⟨_,rfl⟩;rw [hl] at HCC HR HND hll;have HL:=Za hl;have HLL:=Za hll;clear hs0 hxw hyw hblk hC2 hcc hl hll HM0 HB1 hnl
 go_wp2_with fail
 refine HCC.out.mono ?_;rintro e w3 ⟨v,rfl,hv,hb3⟩;obtain ⟨ua,uc,rfl⟩:=Kd.aRz hv;have HV:=Za hv;have HM3:=Za (HM1.out.below hb3);have HB3:=Za (HB2.out.trans (hb3.mono HB2.out.size));rw [HLL.out];rw [HLL.out] at HV;generalize ((w0.alloc (.map #[] 0)).alloc (.cells #[.slice A nx ca, .slice B ny cb] 57)).heap.size=b0 at HV;generalize w0.heap.size=mb at HM3 HMB|-;clear hv hb3 HCC HM1 HB2 hmm;go_wp2
 go_loopw [35] (fun i wr=> ∃k:Nat,k<=nl/\i= .int .i64 (k:Int)/\Aside0 (MapSet wr mb (l.take k))/\Aside0 ((Kd.int .i64).R 3 wr b0 (fun _=>True) (.slice ua (nl) uc) l)/\Aside0 (Below W.heap.size W wr)) (fun i _=>nl - (intOf i).toNat)
 case atStart=>exact ⟨0,Nat.zero_le _,rfl,HM3,HV,HB3⟩
 clear HM3 HV HB3;obtain ⟨k,hk,rfl,HM,HV,HB⟩:=hrel;by_cases hlt:k<nl
 ·obtain ⟨z,hz⟩: ∃z,l[k]?=some z:=⟨_,Zf (by have:=HLL.out;omega)⟩;have hvC:Kd.C (Kd.int .i64) wr ua l.length l:=(Kd.aNz HV.out).2.2;obtain ⟨ad,rfl,hcell⟩:=cHz hvC k z hz;have hzr:=HR.out z (Zo hz);have hz0: ¬z<0:=by omega
  have hz1: ¬fsize wb<=z:=by omega
  have hwf:(Lit.int .i64 z).wf=true:=WalkArith.wf_i64 (by rcases dAz HW.out with ⟨e, -⟩|⟨e, -⟩<;>omega)
  have hzn:z∉l.take k:=by
   intro hm;obtain ⟨j,hj,e⟩:=List.getElem_of_mem hm;rw [List.getElem_take] at e;rw [List.length_take] at hj;have h1:=List.pairwise_iff_getElem.1 HND.out j k (by omega) (by have:=HLL.out;omega) (by omega);obtain ⟨h2,h3⟩:=Zk hz;exact h1 (e.trans h3.symm)
  have HSZ:=Za (eqz.calls g wb (fpoly wb) S wr (HF.out.below HB.out) HW.out);have HLK:=Za (fun n=>(HM.out.below (aSz (Zw _ wr) n)).look hwf hzn);have HKEY:=Za (keyOf_int_mk Tryz.underlying3 hwf);have HTK:=Za (show l.take (k+1)=l.take k++ [z] by rw [List.take_add_one,hz];rfl);have HTL:=Za (show (l.take k).length=k by rw [List.length_take];have:=HLL.out;omega);clear hz hvC hzr hwf hzn
  go_wp2_with fail
  refine HSZ.out.mono ?_;rintro e w4 ⟨rfl,n4,rfl⟩;have hlk:=HLK.out n4;obtain ⟨D,ho,hmap,hd⟩:=HM.out.below (aSz (Zw _ wr) n4);have HO:=Za ho;have HMP:=Za hmap;have HD:=Za hd;clear ho hmap hd
  go_wp2_with (at_mapUpdate;refine wpList_mapUpdate_own _ rfl _ _ _ 195 rfl 3 4 lawI Tryz.underlying195 _ mb _ _ rfl HO.out ?hn _ _ _ rfl rfl HKEY.out _ [] (plainElem_bool Tryz.underlying4 true) ?_;(case hn=>rw [HTL.out];unfold maxLen;omega);intro w5 hown1 hgrow1;have HO1:=Za hown1;have HG1:=Za hgrow1;clear hown1 hgrow1)
  go_roundw
  case rel=>
   refine ⟨k+1,by omega,by go_num,⟨by rw [HTK.out];exact MapSet.put HMP.out HD.out HO1.out⟩,⟨e0z (Kd.dmz HV.out n4) HG1.out (fun r e=>by cases e;exact (HM.out.below (aSz (Zw _ wr) n4)).noncells)⟩,⟨((aSz HB.out n4).grown HG1.out HB.out.size (fun j hj=>by cases hj;exact HMB.out))⟩⟩
  case measure=>simp [intOf];omega
 ·obtain rfl:k=nl:=by omega
  have HF0:=Za (show Fd wr g wb (fpoly wb) (fun q=>S q\/some q=(Value.slice none 0 0).ownBlock) from (HF.out.below HB.out).thin (fun q _ hs=>hs.elim id (fun e=>by simp [Value.ownBlock] at e)));have HBB0:=Za (BB.of_below HB.out g);clear HM HV HB;go_wp2
  go_loopw [11,57] (fun v i wr=> ∃k:Nat,k<=nx/\i= .int .i64 (k:Int)/\Aside0 (Kd.S (dM 3 .i64) 57 wr W.heap.size (fun _=>True) v (cauM wb (x.take k) y))/\Aside0 (Fd wr g wb (fpoly wb) (fun q=>S q\/some q=v.ownBlock))/\Aside0 (BB W wr g)) (fun _ i _=>nx - (intOf i).toNat)
  case atStart=>exact ⟨0,Nat.zero_le _,rfl,⟨Kd.S_nil _ _ _ _ _⟩,HF0,HBB0⟩
  clear HF0 HBB0;obtain ⟨wq,rfl⟩: ∃wq,wq=wr:=⟨_,rfl⟩;obtain ⟨k,hk,rfl,HO,HF1,HBB⟩:=hrel;by_cases hlt:k<nx
  ·obtain ⟨a,ha⟩: ∃a,x[k]?=some a:=⟨_,Zf (by have:=HNX.out;omega)⟩;obtain ⟨ad,rfl,hca⟩:=cHz (Kd.F_now (F_bb HX.out HBB.out)) k a ha
   have HCM:=Za (show cauM wb (x.take (k+1)) y=cauM wb (x.take k) y++ [y.map fun b=>ginv wb (Go.bits .xor .i64 a b)] by
    unfold cauM;rw [List.take_add_one,ha];simp)
   have HF2:=Za (show Fd wq g wb (fpoly wb) (fun q=>(S q\/some q=u11.ownBlock)\/some q=(Value.slice none 0 0).ownBlock) from HF1.out.thin (fun q _ hs=>hs.elim id (fun e=>by simp [Value.ownBlock] at e)));clear ha;go_wp2
   go_loopw [14,63] (fun u j w2=> ∃n:Nat,n<=ny/\j= .int .i64 (n:Int)/\Aside0 ((Kd.int .i64).R 3 w2 wq.heap.size (fun _=>True) u ((y.take n).map fun b=>ginv wb (Go.bits .xor .i64 a b)))/\Aside0 (Fd w2 g wb (fpoly wb) (fun q=>(S q\/some q=u11.ownBlock)\/some q=u.ownBlock))/\Aside0 (BB wq w2 g)) (fun _ j _=>ny - (intOf j).toNat)
   case atStart=>exact ⟨0,Nat.zero_le _,rfl,⟨Kd.R_nil _ _ _ _ _⟩,HF2,⟨BB.refl _ _⟩⟩
   clear HF2 hca;obtain ⟨w2,rfl⟩: ∃w2,w2=wr:=⟨_,rfl⟩;obtain ⟨n,hn,rfl,HR1,HF2,HB2⟩:=hrel;by_cases hlt2:n<ny
   ·have hSS : ∀ q, ((S q \/ some q = u11.ownBlock) \/ some q = u14.ownBlock) -> q < w2.heap.size := by
     have s1:=HB2.out.size;have s2:=HBB.out.size;rintro q ((h|h)|h)
     ·have:=HS.out q h;omega
     ·have:=Kd.R_lt (Kd.S_R HO.out) q h.symm;omega
     ·exact Kd.R_lt HR1.out q h.symm
    obtain ⟨bv,hb⟩: ∃b,y[n]?=some b:=⟨_,Zf (by have:=HNY.out;omega)⟩;obtain ⟨bd,rfl,hcb⟩:=cHz (Kd.F_now (F_bb HY.out (HBB.out.trans HB2.out))) n bv hb;have HTC:=Za (gf_Inv.calls g _ wb (Go.bits .xor .i64 a bv) w2 HW.out HF2.out hSS);have HSZ:=Za (show wq.heap.size<=w2.heap.size from HB2.out.size);obtain ⟨gcs,hgcs⟩:=Fd.cells HF2.out;have HR3:=Za (show∀w3,BB w2 w3 g->(Kd.int .i64).R 3 w3 wq.heap.size (fun _=>True) u14 ((y.take n).map fun b=>ginv wb (Go.bits .xor .i64 a b)) from fun w3 hb3=>Kd.aJz (Kd.dpz (Kd.c5z HR1.out hgcs (by decide)) (fun q hq hlt=>hb3.block q hlt hq.2)) (fun _ _=>trivial));have HLL2:=Za (show ((y.take n).map fun b=>ginv wb (Go.bits .xor .i64 a b)).length<=100 by simp;omega);have HRS:=Za (show (y.take (n+1)).map (fun b=>ginv wb (Go.bits .xor .i64 a b))=(y.take n).map (fun b=>ginv wb (Go.bits .xor .i64 a b))++ [ginv wb (Go.bits .xor .i64 a bv)] by rw [List.take_add_one,hb];simp)
    have i1:(0:Int)<=(n:Int):=by omega
    have i2:(n:Int)<(ny:Int):=by omega
    generalize (y.take n).map (fun b=>ginv wb (Go.bits .xor .i64 a b))=pre at HR1 HR3 HLL2 HRS;generalize ginv wb (Go.bits .xor .i64 a bv)=z at HTC HRS;generalize hq:(inF wb (Go.bits .xor .i64 a bv)&&Go.bits .xor .i64 a bv !=0)=bz at HTC;clear hSS hgcs hb hq
    go_wp2_with fail
    refine HTC.out.mono ?_;rintro e w3 ⟨rfl,q1,q2⟩;have HR4:=Za (HR3.out w3 q2);have HF3:=Za q1;have HB3:=Za (HB2.out.trans q2);have HZ3:=Za (Zt HSZ.out q2.size);clear q1 q2 HTC HR3 hcb
    go_wp2_with ((with_reducible refine anz (b:= .append) (xs:= #[.tmp 75, .tmp 77]) rfl ?_);go_must (at_builtin;refine Kd.bxz (Kd.int .i64) (w0:=w3) wq.heap.size rfl (.tmp 75) (.tmp 77) 57 3 (.int .i64 0) 8 rfl Tryz.underlying57 kr_ rfl (by decide) (by decide) _ _ z [.int .i64 z] (fun _=>True) (fun _=>False) rfl rfl rfl (fun _ h=>h.elim) (fun _ _=>trivial) HR4.out (Zw _ _) HZ3.out ?aL ?_;(case aL=>have:=HLL2.out;omega));intro v2 w4 ho2 hb2 hg2 hat2;have HO2:=Za ho2;have HB4:=Za hb2;have HG2:=Za (show w3.grownBy w4 u14.ownBlock from hg2);have HA2:=Za (show v2.ownBlock=u14.ownBlock\/ ∃b,v2.ownBlock=some b/\w3.heap.size<=b from hat2);clear ho2 hb2 hg2 hat2)
    go_roundw
    case rel=>exact ⟨n+1,by omega,by go_num,⟨by rw [HRS.out];exact HO2.out⟩,⟨Fd.appended HF3.out HG2.out HA2.out⟩,⟨HB3.out.os▸HB4.out.os,HB3.out.tape▸HB4.out.tape,HB3.out.output▸HB4.out.output,Zt HB3.out.size HB4.out.size,fun i hi hg=>(HB4.out.block i hi).trans (HB3.out.block i hi hg)⟩⟩
    case measure=>simp [intOf];omega
   ·obtain rfl:n=ny:=by omega
    have hyt:y.take n=y:=List.take_of_length_le (by have:=HNY.out;omega);rw [hyt] at HR1;obtain ⟨gcs,hgcs⟩:=Fd.cells HF1.out;have hj:=S_join HO.out hgcs (by decide) HB2.out HR1.out HBB.out.size;have HLZ:=Za (show (cauM wb (x.take k) y).length<=1000 by simp [cauM];omega);obtain ⟨va,vc,rfl⟩:=Kd.aRz HR1.out
    generalize (y.map fun b=>ginv wb (Go.bits .xor .i64 a b)).length=nn at *
    generalize (y.map fun b=>ginv wb (Go.bits .xor .i64 a b))=R at hj HCM;have HS1:=Za hj.1;have HM1:=Za hj.2.1;have HOK:=Za hj.2.2;have HSW:=Za (show W.heap.size<=w2.heap.size from Zt HBB.out.size HB2.out.size);have HF5:=Za (show Fd w2 g wb (fpoly wb) (fun q=>S q\/some q=u11.ownBlock) from HF2.out.thin (fun q _ hs=> .inl hs));clear hj hgcs HF2 HR1 hyt
    go_wp2_with ((with_reducible refine anz (b:= .append) (xs:= #[.tmp 80, .tmp 82]) rfl ?_);go_must (at_builtin;refine Kd.bLz (dM 3 .i64) (w0:=w2) W.heap.size rfl (.tmp 80) (.tmp 82) 69 57 (.slice none 0 0) 24 rfl Tryz.underlying69 kr_ rfl (by decide) (by decide) _ _ R [.slice va nn vc] (fun _=>True) (fun k'=>wq.heap.size<=k') rfl rfl HM1.out HOK.out (fun _ _=>trivial) HS1.out (Zw _ _) HSW.out ?aL ?_;(case aL=>have:=HLZ.out;omega));intro v2 w4 ho2 hb2 hg2 hat2;have HO2:=Za ho2;have HB4:=Za hb2;have HG2:=Za (show w2.grownBy w4 u11.ownBlock from hg2);have HA2:=Za (show v2.ownBlock=u11.ownBlock\/ ∃b,v2.ownBlock=some b/\w2.heap.size<=b from hat2);clear ho2 hb2 hg2 hat2)
    go_roundw
    case rel=>exact ⟨k+1,by omega,by go_num,⟨by rw [HCM.out];exact HO2.out⟩,⟨Fd.appended HF5.out HG2.out HA2.out⟩,⟨⟨HB4.out.os.trans (HB2.out.os.trans HBB.out.os),HB4.out.tape.trans (HB2.out.tape.trans HBB.out.tape),HB4.out.output.trans (HB2.out.output.trans HBB.out.output),Zt HSW.out HB4.out.size,fun i hi hg=>(HB4.out.block i hi).trans ((HB2.out.block i (Zp hi HBB.out.size) hg).trans (HBB.out.block i hi hg))⟩⟩⟩
    case measure=>simp [intOf];omega
  ·obtain rfl:k=nx:=by omega
   have HO2:=Za HO.out;rw [List.take_of_length_le (by have:=HNX.out;omega)] at HO2;go_wp2;go_ret2;exact ⟨_,rfl,HO2.out,HF1.out.thin (fun q _ hs=> .inl hs),HBB.out⟩
end Go.Proofs.Xc
end
section
namespace Go.Proofs.Xc
open Go.RowKit Go.Proofs.Pw Go.Proofs.Pl Go.Proofs.Pm
attribute [local go_sem] a7z a8z bjz bkz aZz a0z a9z baz
def runL (a n:Nat):List Int:=(List.range n).map fun i=>((a+i:Nat):Int)
theorem run_f: ∀a:Nat,a<9-> ∀n:Nat,n<9->cBz.f 40 (a:Int) (n:Int)=some (runL a n):=by decide+kernel
theorem bKz (a n:Nat):(runL a n).length=n:=by simp [runL]
theorem run_nodup: ∀k:Nat,k<9-> ∀m:Nat,m<5->(runL 0 m++runL m k).Nodup/\(runL k m++runL 0 k).Nodup:=by decide+kernel
theorem eKz {wb:Int} (hw:wb=8\/wb=16) {a n:Nat} (ha:a<20) (hn:n<20): ∀x,x∈runL a n->0<=x/\x<fsize wb:=by
 intro x hx;simp only [runL,List.mem_map,List.mem_range] at hx;obtain ⟨i,hi,rfl⟩:=hx;rcases dAz hw with ⟨e, -⟩|⟨e, -⟩<;>rw [e] <;>omega
theorem R_FG {w:World} {g B:Nat} {wb p:Int} {S:Nat->Prop} {v:Value} {xs:List Int} (h:(Kd.int .i64).R 3 w B (fun _=>True) v xs) (hF:Fd w g wb p S): ∃A c,v= .slice A xs.length c/\xs.length<=c/\Kd.F (Kd.int .i64) w (NotG g) A xs.length xs:=by
 obtain ⟨gcs,hg⟩:=Fd.cells hF;have hR:=Kd.c5z h hg (by decide);obtain ⟨A,c,rfl,hle, -⟩:=Kd.c6z hR;exact ⟨A,c,rfl,hle,fun W' hW=>(Kd.aNz (Kd.dpz hR (fun q hq hlt=>hW q hq.2 hlt))).2.2⟩
theorem run.calls (a n:Nat) (W:World) (ha:a<9) (hn:n<9):Calls Tryz.prog 118 #[.int .i64 (a:Int), .int .i64 (n:Int)] W fun e w'=> ∃v,e= .returned v/\(Kd.int .i64).R 3 w' W.heap.size (fun _=>True) v (runL a n)/\Below W.heap.size W w':=
 cBz.calls 40 (a:Int) (n:Int) (runL a n) W (run_f a ha n hn)
theorem cOrig.calls (g : Nat) (wb : Int) (S : Nat -> Prop) (k m : Nat) (W : World) (hw : wb = 8 \/ wb = 16) (hF : Fd W g wb (fpoly wb) S) (hS : ∀ k, S k -> k < W.heap.size) (h1 : 1 <= k) (h2 : 1 <= m) (h3 : k <= 8) (h4 : m <= 4) :
  Calls Tryz.prog 77 #[.pointer (some ⟨g,0,none⟩), .int .i64 (k:Int), .int .i64 (m:Int)] W fun e w'=> ∃v,e= .returned (.tuple #[v, .int .i64 0])/\Kd.S (dM 3 .i64) 57 w' W.heap.size (fun _=>True) v (cauM wb (runL 0 m) (runL m k))/\Fd w' g wb (fpoly wb) S/\BB W w' g:=by
 have hwi: ∀n:Nat,1<=n->n<=20->btz.f (n:Int)=some true:=fun n h1 h2=>by unfold btz.f;rw [Ya (by omega)];simp;omega
 have HW1:=Za (fun w=>btz.calls (k:Int) true w (hwi k h1 (by omega)));have HW2:=Za (fun w=>btz.calls (m:Int) true w (hwi m h2 (by omega)));have hw3:=fun w=>btz.calls ((k+m:Nat):Int) true w (hwi (k+m) (by omega) (by omega))
 rw [show ((k+m:Nat):Int)=(k:Int)+(m:Int) by omega] at hw3;have HW3:=Za hw3;have hsum:wrap64 ((k:Int)+(m:Int))=(k:Int)+(m:Int):=by unfold wrap64;omega
 have HW:=Za hw;have HF:=Za hF;have HS:=Za hS;have HR1:=Za (fun w=>run.calls 0 m w (by omega) (by omega));have HR2:=Za (fun w=>run.calls m k w (by omega) (by omega));clear hw3 hwi hw hF hS;go_enter Tryz.func77,Tryz.ntmps77
 go_wp2_with fail
 refine (HW1.out _).mono ?_;rintro e w1 ⟨rfl,n1,rfl⟩
 go_wp2_with fail
 refine (HW2.out _).mono ?_;rintro e w2 ⟨rfl,n2,rfl⟩
 go_wp2_with fail
 refine (HW3.out _).mono ?_;rintro e w3 ⟨rfl,n3,rfl⟩;have HB:=Za (show Below W.heap.size W (W.drewN (n1+n2+n3)) from aSz (Zw _ _) _)
 go_wp2_with fail
 generalize W.drewN (n1+n2+n3)=w0 at HB|-;refine (HR1.out w0).mono ?_;rintro e w4 ⟨v1,rfl,r1,b1⟩;have hb1:=HB.out.trans (b1.mono HB.out.size);obtain ⟨A,ca,rfl,hca,f1⟩:=R_FG r1 (HF.out.below hb1);have HF1:=Za f1;have HC1:=Za hca;have HB1:=Za hb1;rw [bKz];clear r1 b1 f1 hca hb1
 go_wp2_with fail
 refine (HR2.out w4).mono ?_;rintro e w5 ⟨v2,rfl,r2,b2⟩;have hb2:=HB1.out.trans (b2.mono HB1.out.size);obtain ⟨B,cb,rfl,hcb,f2⟩:=R_FG r2 (HF.out.below hb2)
 have hof:=Of.calls g wb S A B ca cb (runL 0 m) (runL m k) w5 HW.out (HF.out.below hb2) (fun q hq=>Zp (HS.out q hq) hb2.size) (Kd.cEz HF1.out b2) f2 HC1.out hcb (by rw [bKz];omega) (by rw [bKz];omega) (by rw [bKz];omega) (by rw [bKz];omega)
  (fun x hx=>(List.mem_append.1 hx).elim (eKz HW.out (by omega) (by omega) x) (eKz HW.out (by omega) (by omega) x)) (run_nodup k (by omega) m (by omega)).1
 rw [bKz,bKz] at hof;have HOF:=Za hof;have HB2:=Za hb2;rw [bKz];clear r2 b2 f2 hcb hof hb2
 go_wp2_with (first|(go_at_call 117;refine HOF.out.mono ?_;rintro e w6 ⟨v6,rfl,q1,q2,q3⟩))
 go_ret2;exact ⟨_,rfl,Kd.cJz q1 HB2.out.size,q2,(BB.of_below HB2.out g).trans q3⟩
theorem cIsal.calls (g : Nat) (wb : Int) (S : Nat -> Prop) (k m : Nat) (W : World) (hw : wb = 8 \/ wb = 16) (hF : Fd W g wb (fpoly wb) S) (hS : ∀ k, S k -> k < W.heap.size) (h1 : 1 <= k) (h2 : 1 <= m) (h3 : k <= 8) (h4 : m <= 4) :
  Calls Tryz.prog 79 #[.pointer (some ⟨g,0,none⟩), .int .i64 (k:Int), .int .i64 (m:Int)] W fun e w'=> ∃v,e= .returned (.tuple #[v, .int .i64 0])/\Kd.S (dM 3 .i64) 57 w' W.heap.size (fun _=>True) v (cauM wb (runL k m) (runL 0 k))/\Fd w' g wb (fpoly wb) S/\BB W w' g:=by
 have hwi: ∀n:Nat,1<=n->n<=20->btz.f (n:Int)=some true:=fun n h1 h2=>by unfold btz.f;rw [Ya (by omega)];simp;omega
 have HW1:=Za (fun w=>btz.calls (k:Int) true w (hwi k h1 (by omega)));have HW2:=Za (fun w=>btz.calls (m:Int) true w (hwi m h2 (by omega)));have hw3:=fun w=>btz.calls ((k+m:Nat):Int) true w (hwi (k+m) (by omega) (by omega))
 rw [show ((k+m:Nat):Int)=(k:Int)+(m:Int) by omega] at hw3;have HW3:=Za hw3;have hsum:wrap64 ((k:Int)+(m:Int))=(k:Int)+(m:Int):=by unfold wrap64;omega
 have HW:=Za hw;have HF:=Za hF;have HS:=Za hS;have HR1:=Za (fun w=>run.calls k m w (by omega) (by omega));have HR2:=Za (fun w=>run.calls 0 k w (by omega) (by omega));clear hw3 hwi hw hF hS;go_enter Tryz.func79,Tryz.ntmps79
 go_wp2_with fail
 refine (HW1.out _).mono ?_;rintro e w1 ⟨rfl,n1,rfl⟩
 go_wp2_with fail
 refine (HW2.out _).mono ?_;rintro e w2 ⟨rfl,n2,rfl⟩
 go_wp2_with fail
 refine (HW3.out _).mono ?_;rintro e w3 ⟨rfl,n3,rfl⟩;have HB:=Za (show Below W.heap.size W (W.drewN (n1+n2+n3)) from aSz (Zw _ _) _)
 go_wp2_with fail
 generalize W.drewN (n1+n2+n3)=w0 at HB|-;refine (HR1.out w0).mono ?_;rintro e w4 ⟨v1,rfl,r1,b1⟩;have hb1:=HB.out.trans (b1.mono HB.out.size);obtain ⟨A,ca,rfl,hca,f1⟩:=R_FG r1 (HF.out.below hb1);have HF1:=Za f1;have HC1:=Za hca;have HB1:=Za hb1;rw [bKz];clear r1 b1 f1 hca hb1
 go_wp2_with fail
 refine (HR2.out w4).mono ?_;rintro e w5 ⟨v2,rfl,r2,b2⟩;have hb2:=HB1.out.trans (b2.mono HB1.out.size);obtain ⟨B,cb,rfl,hcb,f2⟩:=R_FG r2 (HF.out.below hb2)
 have hof:=Of.calls g wb S A B ca cb (runL k m) (runL 0 k) w5 HW.out (HF.out.below hb2) (fun q hq=>Zp (HS.out q hq) hb2.size) (Kd.cEz HF1.out b2) f2 HC1.out hcb (by rw [bKz];omega) (by rw [bKz];omega) (by rw [bKz];omega) (by rw [bKz];omega)
  (fun x hx=>(List.mem_append.1 hx).elim (eKz HW.out (by omega) (by omega) x) (eKz HW.out (by omega) (by omega) x)) (run_nodup k (by omega) m (by omega)).2
 rw [bKz,bKz] at hof;have HOF:=Za hof;have HB2:=Za hb2;rw [bKz];clear r2 b2 f2 hcb hof hb2
 go_wp2_with (first|(go_at_call 117;refine HOF.out.mono ?_;rintro e w6 ⟨v6,rfl,q1,q2,q3⟩))
 go_ret2;exact ⟨_,rfl,Kd.cJz q1 HB2.out.size,q2,(BB.of_below HB2.out g).trans q3⟩
end Go.Proofs.Xc
end
