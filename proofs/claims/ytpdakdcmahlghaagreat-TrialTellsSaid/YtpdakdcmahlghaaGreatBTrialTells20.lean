-- Joined texts of this work (wip/tools/bundle.py).
import Derived.Lib.SlBytesConst
import Derived.Test.YtpdakdcmahlghaaGreatBTrialTells19
set_option maxHeartbeats 8000000
set_option maxRecDepth 100000
set_option linter.unusedVariables false
set_option linter.unusedSimpArgs false
section
namespace Go.Proofs.Xc
open Go.RowKit Go.Proofs.Pw Go.Proofs.Pl Go.Proofs.Pm
attribute [local go_sem] bcz bdz bpz bqz a4z a5z bez bfz
def xorB (a b:List Int):List Int:=List.zipWith (fun x y=>Go.bits .xor .u8 x y) a b
def sumB (L:Nat) (rows:List (List Int)):List Int:=rows.foldl xorB (List.replicate L 0)
theorem dbz (a b:List Int) (h:a.length=b.length):(xorB a b).length=b.length:=by simp [xorB];omega
theorem fbz {L:Nat} : ∀(rows:List (List Int)) (acc:List Int),acc.length=L->(∀r,r∈rows->r.length=L)->(rows.foldl xorB acc).length=L
 | [],acc,h,_=>h
 |r::rs,acc,h,hr=>by
  have h1:=hr r (List.mem_cons_self ..);exact fbz rs (xorB acc r) (by rw [dbz _ _ (h.trans h1.symm)];exact h1) (fun q hq=>hr q (List.mem_cons_of_mem _ hq))
theorem sumB_length {L:Nat} (rows:List (List Int)) (h: ∀r,r∈rows->r.length=L):(sumB L rows).length=L:=fbz rows _ (by simp) h
theorem dOz {j:Nat} (h:j<=1000000000):wrap64 ((j:Int)+1)=((j+1:Nat):Int):=by unfold wrap64;omega
theorem sum_l1 (rows : List (List Int)) (n : Int) (i : Nat) (acc row : List Int) (r : List Int × Int) (K : Nat) (hl : acc.length = row.length) (hL : row.length <= 100000000) (hi : i <= 100000000)
  (h:aLz.l0 K (xorB acc row) rows n ((i+1:Nat):Int)=some r):
  ∀(d j:Nat),j+d=row.length->aLz.l1 (K+d+1) ((xorB acc row).take j++acc.drop j) rows n (i:Int) row (row.length:Int) (j:Int)=some r
 |0,j,hj=>by
  obtain rfl:j=row.length:=by omega
  unfold aLz.l1;rw [Yb (by omega),dOz (by omega),List.take_of_length_le (by rw [dbz _ _ hl];exact Zv _),List.drop_of_length_le (by omega),List.append_nil];exact h
 |d+1,j,hj=>by
  have hlx:=dbz _ _ hl;have hjl:j<row.length:=by omega
  have hlen:((xorB acc row).take j++acc.drop j).length=row.length:=by simp [hlx];omega
  unfold aLz.l1;rw [Ya (by omega),Ya (by omega),Ya (by omega),Ya (by omega),dOz (by omega)]
  have hset:((xorB acc row).take j++acc.drop j).set (j:Int).toNat (Go.bits .xor .u8 (rd ((xorB acc row).take j++acc.drop j) (j:Int)) (rd row (j:Int)))=(xorB acc row).take (j+1)++acc.drop (j+1):=by
   have e1:rd ((xorB acc row).take j++acc.drop j) (j:Int)=acc.getD j 0:=by
    unfold rd;rw [Zu,Zm,List.getElem?_append_right (by simp [hlx];omega),List.getElem?_drop];simp [hlx,Nat.min_eq_left (Nat.le_of_lt hjl)]
   have e2:rd row (j:Int)=row.getD j 0:=by unfold rd;rw [Zu]
   rw [e1,e2,Zu];apply List.ext_getElem?
   intro q;have hja:j<acc.length:=by omega
   have hx:(xorB acc row)[j]?=some (Go.bits .xor .u8 (acc.getD j 0) (row.getD j 0)):=by
    unfold xorB;rw [List.getElem?_zipWith,Zf hja,Zf hjl];simp [Zm,Zf hja,Zf hjl]
   rw [List.getElem?_set];by_cases hq:j=q
   ·subst hq;rw [Ya rfl,Ya (by omega),List.getElem?_append_left (by simp [hlx];omega),List.getElem?_take,Ya (by omega),hx]
   ·rw [Yb hq];by_cases hlt:q<j
    ·rw [List.getElem?_append_left (by simp [hlx];omega),List.getElem?_append_left (by simp [hlx];omega),List.getElem?_take,List.getElem?_take,Ya hlt,Ya (by omega)]
    ·rw [List.getElem?_append_right (by simp [hlx];omega),List.getElem?_append_right (by simp [hlx];omega),List.getElem?_drop,List.getElem?_drop];congr 1
     simp [hlx,Nat.min_eq_left (Nat.le_of_lt hjl),Nat.min_eq_left (show j+1<=row.length from hjl)];omega
  rw [hset];have:=sum_l1 rows n i acc row r K hl hL hi h d (j+1) (by omega);rw [show K+(d+1)=K+d+1 by omega];exact this
theorem sum_l0 (rows : List (List Int)) (L : Nat) (hL : L <= 100000000) (hn : rows.length <= 1000) (hr : ∀ r, r ∈ rows -> r.length = L) :
  ∀(m i:Nat) (acc:List Int),i+m=rows.length->acc.length=L-> ∃K,aLz.l0 K acc rows (rows.length:Int) (i:Int)=some ((rows.drop i).foldl xorB acc,0)
 |0,i,acc,hi,ha=>by
  refine ⟨1,?_⟩;unfold aLz.l0;rw [Yb (by omega),List.drop_of_length_le (by omega)];rfl
 |m+1,i,acc,hi,ha=>by
  obtain ⟨row,hrow⟩: ∃r,rows[i]?=some r:=⟨_,Zf (by omega)⟩;have hrl:=hr row (Zo hrow)
  have hd:rows.drop i=row::rows.drop (i+1):=by
   obtain ⟨h1,h2⟩:=Zk hrow;rw [List.drop_eq_getElem_cons h1,h2]
  obtain ⟨K,hK⟩:=sum_l0 rows L hL hn hr m (i+1) (xorB acc row) (by omega) (by rw [dbz _ _ (by omega)];exact hrl);have h1:=sum_l1 rows (rows.length:Int) i acc row _ K (by omega) (by omega) (by omega) hK row.length 0 (by omega);refine ⟨K+row.length+1+1,?_⟩;have hrd:rd_L1 rows (i:Int)=row:=by unfold rd_L1;rw [Zu,Zm,hrow];rfl
  unfold aLz.l0;rw [Ya (by omega),Ya (by omega),Ya (by omega),hrd,Ya (by omega),hd]
  simpa using h1
theorem sum_ev (rows:List (List Int)) (L:Nat) (hL:L<=100000000) (hn:rows.length<=1000) (h0:0<rows.length) (hr: ∀r,r∈rows->r.length=L):Ev (fun k=>aLz.f k rows) (sumB L rows,0):=by
 obtain ⟨row,hrow⟩: ∃r,rows[0]?=some r:=⟨_,Zf h0⟩;have hrl:=hr row (Zo hrow);have hrd:rd_L1 rows 0=row:=by unfold rd_L1;rw [show (0:Int).toNat=0 from rfl,Zm,hrow];rfl
 obtain ⟨K,hK⟩:=sum_l0 rows L hL hn hr rows.length 0 (List.replicate L 0) (by omega) (by simp);refine Ev.of (fun k=>aLz.mono _ k) (k:=K) ?_;unfold aLz.f;rw [Ya (by omega),hrd,Ya (by omega),Ya (by omega),hrl,Zu]
 simpa [sumB] using hK
theorem byteF_len (wb a:Int):(byteF wb a).length=wN wb:=by unfold byteF wN;split<;>rfl
theorem bytesF_len (wb:Int): ∀l:List Int,(bytesF wb l).length=l.length*wN wb
 | [] =>by simp [bytesF]
 |a::l=>by
  have h1:=bytesF_len wb l;have h3:bytesF wb (a::l)=byteF wb a++bytesF wb l:=by unfold bytesF;rw [List.flatMap_cons]
  rw [h3,List.length_append,byteF_len,h1,List.length_cons,Nat.add_mul];omega
theorem mulB_len (wb c:Int) (b:List Int) (h:b.length % wN wb=0):(mulB wb c b).length=b.length:=by
 unfold mulB;rw [bytesF_len,List.length_map,e3z];exact Nat.div_mul_cancel (Nat.dvd_of_mod_eq_zero h)
def dotV (L:Nat) (wb:Int) (c:List Int) (rows:List (List Int)):List Int:=sumB L (List.zipWith (mulB wb) c rows)
theorem zip_len {wb:Int} {L:Nat} (hd:L % wN wb=0) {c:List Int} {rows:List (List Int)} (hr: ∀r,r∈rows->r.length=L): ∀r,r∈List.zipWith (mulB wb) c rows->r.length=L:=by
 intro r h;obtain ⟨i,hi,rfl⟩:=List.mem_iff_getElem.1 h;rw [List.getElem_zipWith];rw [mulB_len _ _ _ (by rw [hr _ (List.getElem_mem ..)];exact hd)];exact hr _ (List.getElem_mem ..)
theorem dotV_len {wb:Int} {L:Nat} (hd:L % wN wb=0) {c:List Int} {rows:List (List Int)} (hr: ∀r,r∈rows->r.length=L):(dotV L wb c rows).length=L:=sumB_length _ (zip_len hd hr)
theorem dot_ev (wb:Int) (L:Nat) (hL:L<=1000000) (hd:L % wN wb=0) (c:List Int) (rows:List (List Int)) (h0:0<rows.length) (hc:c.length=rows.length) (hn:rows.length<=1000) (hr: ∀r,r∈rows->r.length=L):Ev (fun k=>dotB k wb c rows) (dotV L wb c rows,0):=by
 have hall:rows.all (evB wb)=true:=by
  rw [List.all_eq_true];intro r h;unfold evB;rw [hr r h,hd];rfl
 refine Ev.congr (f:=fun k=>aLz.f k (List.zipWith (mulB wb) c rows)) (fun k=>by unfold dotB;rw [Ya hall]) ?_;exact sum_ev _ L (by omega) (by simp;omega) (by simp;omega) (zip_len hd hr)
theorem parl_ev (wb : Int) (L : Nat) (hL : L <= 1000000) (hd : L % wN wb = 0) (data : List (List Int)) (h0 : 0 < data.length) (hn : data.length <= 1000) (hr : ∀ r, r ∈ data -> r.length = L) :
  ∀(rs acc:List (List Int)),(∀r,r∈rs->r.length=data.length)->Ev (fun k=>aGz.l k wb data rs acc) (acc++rs.map (fun c=>dotV L wb c data),0)
 | [],acc,_=>by
  simp only [aGz.l,List.map_nil,List.append_nil];exact Ev.now _
 |row::rs,acc,hc=>by
  have h1:=dot_ev wb L hL hd row data h0 (hc row (List.mem_cons_self ..)) hn hr;have h2:=parl_ev wb L hL hd data h0 hn hr rs (acc++ [dotV L wb row data]) (fun r h=>hc r (List.mem_cons_of_mem _ h));simp only [aGz.l];refine Ev.bind h1 ?_;rw [List.append_assoc] at h2
  simpa using h2
def parV (L:Nat) (p:Int) (K M:Nat) (data:List (List Int)):List (List Int):=(parM p K M).map fun c=>dotV L (pbits p) c data
theorem par_ev (p : Int) (K M L : Nat) (data : List (List Int)) (hmay : aCz.f p (K : Int) (M : Int) = some true) (hK : data.length = K) (hL : L <= 1000000) (hd : L % wN (pbits p) = 0) (hr : ∀ r, r ∈ data -> r.length = L) :
  Ev (fun k=>aGz.f k p (K:Int) (M:Int) data) (parV L p K M data,0):=by
 obtain ⟨p1,p2,k1,k2,m1,m2⟩:=cDz hmay;have hgd:=d7z p K M (by omega) (by omega) (by omega) (by omega)
 have hs:aGz.small data=true:=by
  simp only [aGz.small,Bool.and_eq_true,decide_eq_true_eq,List.all_eq_true];exact ⟨by omega,fun r h=>by rw [hr r h];exact hL⟩
 have h1:=parl_ev (pbits p) L hL hd data (by omega) (by omega) hr (parM p K M) [] (fun r h=>by rw [(hgd.1 r h).1,hK]);refine Ev.congr (fun k=> ?_) h1;unfold aGz.f;rw [hmay,Zl,Ya rfl,Ya (by omega),Ya hs,Zu,Zu]
def fN (wb:Int):Nat:=if wb=8 then 256 else 65536
theorem fN_fsize {wb:Int} (hw:wb=8\/wb=16):fsize wb=(fN wb:Int):=by rcases hw with rfl|rfl<;>rfl
theorem gmul_cast {wb a b:Int} (ha:0<=a/\a<fsize wb) (hb:0<=b/\b<fsize wb):gmul wb a b=(gmN wb a.toNat b.toNat:Int):=by
 unfold gmul inF;rw [Ya (by simp [ha.1,ha.2,hb.1,hb.2])]
theorem edz {wb a b:Int} (ha:0<=a/\a<fsize wb) (hb:0<=b/\b<fsize wb):(gmul wb a b).toNat=gmN wb a.toNat b.toNat:=by
 rw [gmul_cast ha hb,Zu]
section
variable {wb : Int} (hw : wb = 8 \/ wb = 16)
include hw
theorem c0z: ∃(m q:Nat) (l:List Nat),GfInv m q l/\fN wb=2^(m+1)/\ ∀a b,gmN wb a b=gm m q a b:=by
 rcases hw with rfl|rfl
 ·exact ⟨7,285,_,gf8,rfl,fun a b=>rfl⟩
 ·exact ⟨15,69643,_,gf16,rfl,fun a b=>rfl⟩
theorem gmN_ltN {a:Nat} (b:Nat) (ha:a<fN wb):gmN wb a b<fN wb:=by
 obtain ⟨m,q,l,F,e,h⟩:=c0z hw;rw [h,e];exact F.lt (by rw [<-e];exact ha)
theorem gmN_xl {a c:Nat} (b:Nat) (ha:a<fN wb) (hc:c<fN wb):gmN wb (a^^^c) b=gmN wb a b^^^gmN wb c b:=by
 obtain ⟨m,q,l,F,e,h⟩:=c0z hw;rw [e] at ha hc;rw [h,h,h];exact F.dwz ha hc
theorem gmN_xr (a b c:Nat):gmN wb a (b^^^c)=gmN wb a b^^^gmN wb a c:=by
 obtain ⟨m,q,l,F,e,h⟩:=c0z hw;rw [h,h,h];exact Gf.dCz a b c
theorem gmN_comm {a b:Nat} (ha:a<fN wb) (hb:b<fN wb):gmN wb a b=gmN wb b a:=by
 obtain ⟨m,q,l,F,e,h⟩:=c0z hw;rw [e] at ha hb;rw [h,h];exact F.comm ha hb
theorem gmN_asc {a b:Nat} (ha:a<fN wb) (hb:b<fN wb) (c:Nat):gmN wb (gmN wb a b) c=gmN wb a (gmN wb b c):=by
 obtain ⟨m,q,l,F,e,h⟩:=c0z hw;rw [e] at ha hb;rw [h,h,h,h];exact F.assoc ha hb c
theorem gmN_id {a:Nat} (ha:a<fN wb):gmN wb a 1=a:=by
 obtain ⟨m,q,l,F,e,h⟩:=c0z hw;rw [e] at ha;rw [h];exact F.one_right ha
theorem one_ltN:1<fN wb:=by rcases hw with rfl|rfl<;>decide
theorem gmN_idl {a:Nat} (ha:a<fN wb):gmN wb 1 a=a:=by rw [gmN_comm hw (one_ltN hw) ha,gmN_id hw ha]
theorem gmN_zl (a:Nat):gmN wb 0 a=0:=by
 obtain ⟨m,q,l,F,e,h⟩:=c0z hw;rw [h];exact Gf.zero_left a
theorem c7z (a:Nat):gmN wb a 0=0:=by
 obtain ⟨m,q,l,F,e,h⟩:=c0z hw;rw [h];exact Gf.zero_right a
theorem xor_ltN {a b:Nat} (ha:a<fN wb) (hb:b<fN wb):a^^^b<fN wb:=by
 obtain ⟨m,q,l,F,e,h⟩:=c0z hw;rw [e] at ha hb|-;exact Nat.xor_lt_two_pow ha hb
theorem b9z {a:Int} (ha:0<=a/\a<fsize wb):a.toNat<fN wb:=by
 have:=fN_fsize hw;omega
theorem bx_toNat {a b:Int} (ha:0<=a/\a<fsize wb) (hb:0<=b/\b<fsize wb):(Go.bits .xor .i64 a b).toNat=a.toNat^^^b.toNat:=by
 obtain ⟨x,rfl⟩: ∃x:Nat,a=x:=⟨a.toNat,by omega⟩;obtain ⟨y,rfl⟩: ∃y:Nat,b=y:=⟨b.toNat,by omega⟩;rcases dtz hw with ⟨e, -⟩|⟨e, -⟩<;>rw [e] at ha hb
 ·rw [dMz x y (by omega) (by omega)];simp
 ·rw [dMz x y (by omega) (by omega)];simp
theorem gmN_inv {a:Nat} (ha:a<fN wb) (h0:a≠0):gmN wb a (ginv wb (a:Int)).toNat=1:=by
 have e:(ginv wb (a:Int)).toNat=gpwN wb a (fsize wb - 2).toNat:=by
  have hin:inF wb (a:Int)=true:=by
   unfold inF;rw [Zd (by omega),Zd (by rw [fN_fsize hw];omega)];rfl
  have hb:((a:Int) !=0)=true:=by simpa using h0
  have hf:decide ((0:Int)<=fsize wb - 2)=true:=by rcases hw with rfl|rfl<;>rfl
  unfold ginv;rw [hin,hb,Ya (by decide)];unfold gpow;rw [hin,hf,Ya (by decide),Zu,Zu]
 rw [e];rcases hw with rfl|rfl
 ·exact gf8.inv_left (m:=7) (by exact ha) h0
 ·exact gf16.inv_left (m:=15) (by exact ha) h0
end
theorem xor4 (a b c d:Nat):(a^^^b)^^^(c^^^d)=(a^^^c)^^^(b^^^d):=by
 rw [Nat.xor_assoc,Nat.xor_assoc, <-Nat.xor_assoc b, <-Nat.xor_assoc c,Nat.xor_comm b]
def evN (wb:Int):List Int->List Nat->Nat
 |x::r,y::v=>gmN wb x.toNat y^^^evN wb r v
 |_,_=>0
section
variable {wb : Int} (hw : wb = 8 \/ wb = 16)
include hw
theorem evN_clr {n : Int} (hn : 0 <= n /\ n < fsize wb) : ∀ (r p : List Int) (v : List Nat), r.length = p.length -> (∀ x, x ∈ r -> 0 <= x /\ x < fsize wb) -> (∀ x, x ∈ p -> 0 <= x /\ x < fsize wb) ->
  evN wb (List.zipWith (clrF wb n) r p) v=evN wb r v^^^gmN wb n.toNat (evN wb p v)
 | [], [],v,_,_,_=>by simp [evN,c7z hw]
 | [],_::_,_,h,_,_=>by simp at h
 |_::_, [],_,h,_,_=>by simp at h
 |x::r,y::p, [],_,_,_=>by simp [evN,c7z hw]
 |x::r,y::p,z::v,h,hr,hp=>by
  have ih:=evN_clr hn r p v (by simpa using h) (fun x hx=>hr x (List.mem_cons_of_mem _ hx)) (fun x hx=>hp x (List.mem_cons_of_mem _ hx));have hx:=hr x (List.mem_cons_self ..);have hy:=hp y (List.mem_cons_self ..);show gmN wb (clrF wb n x y).toNat z^^^evN wb (List.zipWith (clrF wb n) r p) v=(gmN wb x.toNat z^^^evN wb r v)^^^gmN wb n.toNat (gmN wb y.toNat z^^^evN wb p v)
  have e:(clrF wb n x y).toNat=x.toNat^^^gmN wb n.toNat y.toNat:=by
   unfold clrF;rw [bx_toNat hw hx (bRz hw _ _),edz hn hy]
  rw [ih,e,gmN_xl hw z (b9z hw hx) (gmN_ltN hw _ (b9z hw hn)),gmN_asc hw (b9z hw hn) (b9z hw hy),gmN_xr hw,xor4]
theorem evN_scl {c : Int} (hc : 0 <= c /\ c < fsize wb) : ∀ (p : List Int) (v : List Nat), (∀ x, x ∈ p -> 0 <= x /\ x < fsize wb) ->
  evN wb (List.zipWith (fun x _=>gmul wb x c) p p) v=gmN wb c.toNat (evN wb p v)
 | [],v,_=>by simp [evN,c7z hw]
 |x::p, [],_=>by simp [evN,c7z hw]
 |x::p,z::v,hp=>by
  have ih:=evN_scl hc p v (fun x hx=>hp x (List.mem_cons_of_mem _ hx));have hx:=hp x (List.mem_cons_self ..);show gmN wb (gmul wb x c).toNat z^^^evN wb (List.zipWith (fun x _=>gmul wb x c) p p) v=gmN wb c.toNat (gmN wb x.toNat z^^^evN wb p v);rw [ih,edz hx hc,gmN_xr hw,gmN_comm hw (b9z hw hx) (b9z hw hc),gmN_asc hw (b9z hw hc) (b9z hw hx)]
theorem evN_off: ∀(r:List Int) (v:List Nat),(∀j,j<v.length->r.getD j 0=0\/v.getD j 0=0)->evN wb r v=0
 | [],v,_=>rfl
 |x::r, [],_=>rfl
 |x::r,y::v,h=>by
  have ih:=evN_off r v (fun j hj=>by simpa using h (j+1) (by simpa using hj));have h0:=h 0 (by simp);show gmN wb x.toNat y^^^evN wb r v=0;rw [ih];rcases h0 with h0|h0
  ·have:x=0:=by simpa using h0
   rw [this];simp [gmN_zl hw]
  ·have:y=0:=by simpa using h0
   rw [this];simp [c7z hw]
theorem evN_two: ∀(r:List Int) (v:List Nat) (i c:Nat),i<c->c<v.length->r.getD i 0=1->v.getD c 0=1->(v.getD i 0=(r.getD c 0).toNat)->(0<=r.getD c 0/\r.getD c 0<fsize wb)->(∀j,j<v.length->j≠i->j≠c->r.getD j 0=0\/v.getD j 0=0)->evN wb r v=0
 | [],v,i,c,_,_,h1,_,_,_,_=>by simp at h1
 |x::r, [],i,c,_,h,_,_,_,_,_=>by simp at h
 |x::r,y::v,0,c+1,_,hc,h1,h2,h3,h4,h=>by
  have e1:x=1:=by simpa using h1
  have e2:v.getD c 0=1:=by simpa using h2
  have e3:y=(r.getD c 0).toNat:=by simpa using h3
  have e4:0<=r.getD c 0/\r.getD c 0<fsize wb:=by simpa using h4
  have hlt:=b9z hw e4;show gmN wb x.toNat y^^^evN wb r v=0
  have key: ∀(r:List Int) (v:List Nat) (c:Nat),c<v.length->v.getD c 0=1->(0<=r.getD c 0/\r.getD c 0<fsize wb)->(∀j,j<v.length->j≠c->r.getD j 0=0\/v.getD j 0=0)->evN wb r v=(r.getD c 0).toNat:=by
   intro r
   induction r with
   |nil=>intro v c _ _ _ _;simp [evN]
   |cons x r ih=>
    intro v c hc h1 h2 h
    cases v with
    |nil=>simp at hc
    |cons y v=>
     cases c with
     |zero=>
      have:=evN_off hw r v (fun j hj=>by simpa using h (j+1) (by simpa using hj) (by omega));have hy:y=1:=by simpa using h1
      have hx:0<=x/\x<fsize wb:=by simpa using h2
      show gmN wb x.toNat y^^^evN wb r v=_;rw [this,hy,gmN_id hw (b9z hw hx),Nat.xor_zero];simp
     |succ c=>
      have ih:=ih v c (by simpa using hc) (by simpa using h1) (by simpa using h2) (fun j hj hne=>by simpa using h (j+1) (by simpa using hj) (by omega));have h0:=h 0 (by simp) (by omega);show gmN wb x.toNat y^^^evN wb r v=_;rw [ih];rcases h0 with h0|h0
      ·have:x=0:=by simpa using h0
       rw [this];show gmN wb 0 y^^^_=_;rw [gmN_zl hw,Nat.zero_xor];simp
      ·have:y=0:=by simpa using h0
       rw [this,c7z hw,Nat.zero_xor];simp
  rw [key r v c (by simpa using hc) e2 e4 (fun j hj hne=>by simpa using h (j+1) (by simpa using hj) (by omega) (by omega)),e1,e3];show gmN wb 1 _^^^_=0;rw [gmN_idl hw hlt,Nat.xor_self]
 |x::r,y::v,i+1,c+1,hic,hc,h1,h2,h3,h4,h=>by
  have ih:=evN_two r v i c (by omega) (by simpa using hc) (by simpa using h1) (by simpa using h2) (by simpa using h3) (by simpa using h4) (fun j hj hne hnc=>by simpa using h (j+1) (by simpa using hj) (by omega) (by omega));have h0:=h 0 (by simp) (by omega) (by omega);show gmN wb x.toNat y^^^evN wb r v=0;rw [ih];rcases h0 with h0|h0
  ·have:x=0:=by simpa using h0
   rw [this];show gmN wb 0 y^^^_=_;rw [gmN_zl hw,Nat.zero_xor]
  ·have:y=0:=by simpa using h0
   rw [this,c7z hw,Nat.zero_xor]
 |x::r,y::v,i,0,hic,_,_,_,_,_,_=>by omega
end
theorem idxF_at' {α:Type} (p:α->Bool): ∀(l:List α), ¬idxF p l<0-> ∃x,l[(idxF p l).toNat]?=some x/\p x=true
 | [],h=>by simp [idxF] at h
 |y::l,h=>by
  have h1:=dFz p l;unfold idxF at h|-;by_cases hp:p y=true
  ·rw [Ya hp];exact ⟨y,by simp,hp⟩
  ·rw [Yb hp] at h|-;by_cases hn:idxF p l<0
   ·rw [Ya hn] at h;omega
   ·rw [Yb hn];obtain ⟨x,hx,hpx⟩:=idxF_at' p l hn;refine ⟨x,?_,hpx⟩;rw [show (idxF p l+1).toNat=(idxF p l).toNat+1 by omega,List.getElem?_cons_succ];exact hx
theorem evN_lt {wb:Int} (hw:wb=8\/wb=16): ∀(r:List Int) (v:List Nat),(∀x,x∈r->0<=x/\x<fsize wb)->evN wb r v<fN wb
 | [],_,_=>by have:=one_ltN hw;simp only [evN];omega
 |_::_, [],_=>by have:=one_ltN hw;simp only [evN];omega
 |x::r,y::v,h=>xor_ltN hw (gmN_ltN hw _ (b9z hw (h x (List.mem_cons_self ..)))) (evN_lt hw r v (fun z hz=>h z (List.mem_cons_of_mem _ hz)))
structure RI (wb:Int) (n:Nat) (u b:List Nat) (c:Nat) (W:List (List Int)):Prop where
 len:W.length=n
 good: ∀r,r∈W->Good wb (n+n) r
 zero: ∀r,r∈W->evN wb r (u++b)=0
 unit: ∀i r,W[i]?=some r-> ∀j,j<c->r.getD j 0=if i=j then 1 else 0
 inj: ∀v:List Nat,v.length=n->(∀x,x∈v->x<fN wb)->(∀r,r∈W->evN wb r v=0)-> ∀x,x∈v->x=0
theorem c1z {wb:Int} {L:Nat} {r:List Int} (h:Good wb L r) (j:Nat):0<=r.getD j 0/\r.getD j 0<fsize wb:=by
 rw [Zm]
 cases e:r[j]? with
 |none=>exact ⟨Int.le_refl _,by show (0:Int)<_;unfold fsize;split<;>omega⟩
 |some x=>exact h.2 x (Zo e)
theorem getD_zip (f:Int->Int->Int) (hf:f 0 0=0): ∀(r p:List Int) (j:Nat),r.length=p.length->(List.zipWith f r p).getD j 0=f (r.getD j 0) (p.getD j 0)
 | [], [],j,_=>by simp [hf]
 | [],_::_,_,h=>by simp at h
 |_::_, [],_,h=>by simp at h
 |x::r,y::p,0,_=>by simp
 |x::r,y::p,j+1,h=>by simpa using getD_zip f hf r p j (by simpa using h)
theorem etz {a b:Int} (ha:0<=a) (hb:0<=b) (h:a.toNat=b.toNat):a=b:=by omega
section
variable {wb : Int} (hw : wb = 8 \/ wb = 16)
include hw
theorem RI.pivot {n c:Nat} {u b:List Nat} {W:List (List Int)} (h:RI wb n u b c W) (hc:c<n): ¬idxF (nzB c) (W.drop c)<0:=by
 intro hneg;have hany:=(dFz (nzB c) (W.drop c)).2.2.1 hneg
 have hz: ∀i r,W[i]?=some r->c<=i->r.getD c 0=0:=by
  intro i r hr hi;have h1:=List.any_eq_false.1 hany r (List.mem_iff_getElem?.2 ⟨i - c,by rw [List.getElem?_drop,show c+(i - c)=i by omega];exact hr⟩)
  simpa [nzB] using h1
 obtain ⟨v,hv⟩: ∃v:List Nat,v=(List.range n).map (fun j=>if j<c then ((W.getD j []).getD c 0).toNat else if j=c then 1 else 0):=⟨_,rfl⟩;have vlen:v.length=n:=by rw [hv];simp
 have vat: ∀j,j<n->v.getD j 0=if j<c then ((W.getD j []).getD c 0).toNat else if j=c then 1 else 0:=by
  intro j hj;rw [hv,Zm];simp [hj]
 have hin: ∀x,x∈v->x<fN wb:=by
  intro x hx;rw [hv] at hx;obtain ⟨j,hj,rfl⟩:=List.mem_map.1 hx;have hj:j<n:=by simpa using hj
  have p1:=one_ltN hw;split
  ·obtain ⟨r,hr⟩: ∃r,W[j]?=some r:=⟨_,Zf (by rw [h.len];exact hj)⟩;have hWr:W.getD j [] =r:=by rw [Zm,hr];rfl
   rw [hWr];exact b9z hw (c1z (h.good r (Zo hr)) c)
  ·split<;>omega
 have hall:=h.inj v vlen hin (by
  intro r hr;obtain ⟨i,hi⟩:=List.mem_iff_getElem?.1 hr;have hil:=(Zk hi).1;rw [h.len] at hil;by_cases hic:i<c
  ·refine evN_two hw r v i c hic (by omega) (by rw [h.unit i r hi i hic, Ya rfl]) (by rw [vat c hc, Yb (Nat.lt_irrefl _), Ya rfl]) (by
    have hWr:W.getD i [] =r:=by rw [Zm,hi];rfl
    rw [vat i hil,Ya hic,hWr]) (c1z (h.good r hr) c) ?_
   intro j hj hji hjc;by_cases hjl:j<c
   ·exact .inl (by rw [h.unit i r hi j hjl,Yb (Ne.symm hji)])
   ·exact .inr (by rw [vat j (by omega),Yb hjl,Yb hjc])
  ·refine evN_off hw r v ?_;intro j hj;by_cases hjl:j<c
   ·exact .inl (by rw [h.unit i r hi j hjl,Yb (by omega)])
   ·by_cases hjc:j=c
    ·exact .inl (by rw [hjc];exact hz i r hi (by omega))
    ·exact .inr (by rw [vat j (by omega),Yb hjl,Yb hjc]))
 have h1:v.getD c 0=1:=by rw [vat c hc,Yb (Nat.lt_irrefl _),Ya rfl]
 have h2:v.getD c 0=0:=by
  rw [Zm,Zf (by omega)];exact hall _ (List.getElem_mem _)
 omega
theorem RI.step {n c:Nat} {u b:List Nat} {W:List (List Int)} (h:RI wb n u b c W) (hc:c<n):RI wb n u b (c+1) (redStep wb c W c).1/\(redStep wb c W c).2=c+1:=by
 have hp:=h.pivot hw hc;have hg:=e9z hw (n+n) c W c h.good;revert hg;unfold redStep;have hat:=idxF_at' (nzB c) (W.drop c) hp;have hz:=dFz (nzB c) (W.drop c)
 generalize idxF (nzB c) (W.drop c)=z at *
 dsimp only;rw [Yb hp];obtain ⟨pr,hpr,hnz⟩:=hat;rw [List.getElem?_drop] at hpr;obtain ⟨k,hk⟩: ∃k,c+z.toNat=k:=⟨_,rfl⟩;rw [hk] at hpr|-;have hkc:c<=k:=by omega
 obtain ⟨q,hq⟩: ∃q,W[c]?=some q:=⟨_,Zf (by rw [h.len];exact hc)⟩;have hsw:=dgz W c k q pr hq hpr;have hsl:=dfz W c k;have hsm:=swapL_mem W c k
 generalize swapL W c k=R at *
 have hRc:R[c]?=some pr:=by
  rw [hsw];by_cases hck:c=k
  ·rw [Ya hck];subst hck;rw [<-hq,hpr]
  ·rw [Yb hck,Ya rfl]
 have hRcD:R.getD c [] =pr:=by rw [Zm,hRc];rfl
 rw [hRcD];have hgp:=h.good pr (Zo hpr);have hpc:=c1z hgp c;have hpc0:pr.getD c 0≠0:=by simpa [nzB] using hnz
 obtain ⟨a,ha⟩: ∃a:Nat,pr.getD c 0=(a:Int):=⟨(pr.getD c 0).toNat,by omega⟩;have haN:a<fN wb:=by have:=b9z hw hpc;rw [ha] at this;simpa using this
 have hir:=eVz hw (pr.getD c 0);have hinv:=gmN_inv hw haN (by omega);rw [<-ha] at hinv;obtain ⟨i,hi⟩: ∃i,ginv wb (pr.getD c 0)=i:=⟨_,rfl⟩;rw [hi] at hir hinv|-;have hiN:=b9z hw hir;obtain ⟨p2,hp2⟩: ∃p2,List.zipWith (fun x _=>gmul wb x i) pr pr=p2:=⟨_,rfl⟩;have e2: ∀v,evN wb p2 v=gmN wb i.toNat (evN wb pr v):=fun v=>by rw [<-hp2];exact evN_scl hw hir pr v hgp.2
 have d2: ∀j,p2.getD j 0=gmul wb (pr.getD j 0) i:=fun j=>by rw [<-hp2];exact getD_zip (fun x _=>gmul wb x i) (dUz _ _) pr pr j rfl
 have hgp2:Good wb (n+n) p2:=by rw [<-hp2];exact zip_good _ hgp hgp (fun x y _ _=>bRz hw _ _)
 rw [hp2];have hset: ∀i,i≠c->(R.set c p2)[i]?=R[i]?:=fun i hi=>by rw [List.getElem?_set_ne (Ne.symm hi)]
 have hsetc:(R.set c p2)[c]?=some p2:=by rw [List.getElem?_set_self (by rw [hsl,h.len];exact hc)]
 have new: ∀i r,(clrAll wb c c p2 (R.set c p2))[i]?=some r->(i=c/\r=p2)\/(i≠c/\ ∃r0,R[i]?=some r0/\r=List.zipWith (clrF wb (r0.getD c 0)) r0 p2):=by
  intro i r hr;by_cases hic:i=c
  ·subst hic;rw [dhz _ _ _ _ _ _ p2 hsetc,Ya rfl] at hr;exact .inl ⟨rfl,by injection hr with e;exact e.symm⟩
  ·obtain ⟨r0,hr0⟩: ∃r0,R[i]?=some r0:=⟨_,Zf (by have:=(Zk hr).1;rw [csz,List.length_set] at this;exact this)⟩;rw [dhz _ _ _ _ _ _ r0 (by rw [hset i hic];exact hr0),Yb hic] at hr;exact .inr ⟨hic,r0,hr0,by injection hr with e;exact e.symm⟩
 have old: ∀i r0,R[i]?=some r0->i≠c->List.zipWith (clrF wb (r0.getD c 0)) r0 p2∈clrAll wb c c p2 (R.set c p2):=by
  intro i r0 hr0 hic;refine List.mem_iff_getElem?.2 ⟨i,?_⟩;rw [dhz _ _ _ _ _ _ r0 (by rw [hset i hic];exact hr0),Yb hic]
 have oldc:p2∈clrAll wb c c p2 (R.set c p2):=by
  refine List.mem_iff_getElem?.2 ⟨c,?_⟩;rw [dhz _ _ _ _ _ _ p2 hsetc,Ya rfl]
 have goodR: ∀i r0,R[i]?=some r0->Good wb (n+n) r0:=fun i r0 hr0=>h.good r0 (hsm r0 (Zo hr0))
 have eclr: ∀(i:Nat) (r0:List Int) (v:List Nat),R[i]?=some r0->evN wb (List.zipWith (clrF wb (r0.getD c 0)) r0 p2) v=evN wb r0 v^^^gmN wb (r0.getD c 0).toNat (evN wb p2 v):=by
  intro i r0 v hr0;have hg0:=goodR i r0 hr0;exact evN_clr hw (c1z hg0 c) r0 p2 v (hg0.1.trans hgp2.1.symm) hg0.2 hgp2.2
 have prz: ∀j,j<c->pr.getD j 0=0:=fun j hj=>by rw [h.unit k pr hpr j hj,Yb (by omega)]
 have p2z: ∀j,j<c->p2.getD j 0=0:=fun j hj=>by rw [d2,prz j hj,dUz]
 have p2c:p2.getD c 0=1:=by
  refine etz (c1z hgp2 c).1 (by omega) ?_;rw [d2,edz hpc hir,ha]
  simpa using hinv
 have Runit: ∀i r0,R[i]?=some r0->i≠c-> ∀j,j<c->r0.getD j 0=if i=j then 1 else 0:=by
  intro i r0 hr0 hic j hj;rw [hsw] at hr0;by_cases hik:i=k
  ·rw [Ya hik] at hr0;injection hr0 with e
   subst e;rw [h.unit c q hq j hj,Yb (by omega),Yb (by omega)]
  ·rw [Yb hik,Yb hic] at hr0;exact h.unit i r0 hr0 j hj
 have Rall: ∀r,r∈W->r=pr\/ ∃i,i≠c/\R[i]?=some r:=by
  intro r hr;obtain ⟨i,hi⟩:=List.mem_iff_getElem?.1 hr;by_cases hik:i=k
  ·subst hik;rw [hpr] at hi;injection hi with e;exact .inl e.symm
  ·by_cases hic:i=c
   ·rw [hic,hq] at hi;injection hi with e
    subst e;exact .inr ⟨k,fun e=>hik (hic.trans e.symm),by rw [hsw,Ya rfl]⟩
   ·exact .inr ⟨i,hic,by rw [hsw,Yb hik,Yb hic];exact hi⟩
 intro hg;refine ⟨⟨hg.2.trans h.len,hg.1,?_,?_,?_⟩,rfl⟩
 ·intro r hr;obtain ⟨i,hi⟩:=List.mem_iff_getElem?.1 hr;have z2:evN wb p2 (u++b)=0:=by rw [e2,h.zero pr (Zo hpr),c7z hw]
  rcases new i r hi with ⟨-,rfl⟩|⟨-,r0,hr0,rfl⟩
  ·exact z2
  ·rw [eclr i r0 _ hr0,z2,c7z hw,h.zero r0 (hsm r0 (Zo hr0))];rfl
 ·intro i r hr j hj;rcases new i r hr with ⟨rfl,rfl⟩|⟨hic,r0,hr0,rfl⟩
  ·by_cases hji:j=i
   ·subst hji;rw [p2c,Ya rfl]
   ·rw [p2z j (by omega),Yb (fun e=>hji e.symm)]
  ·have hg0:=goodR i r0 hr0;have hc0:=c1z hg0 c;rw [getD_zip _ (by unfold clrF;rw [eAz];rfl) r0 p2 j (hg0.1.trans hgp2.1.symm)];have hd:=c1z hg0 j;have hd2:=c1z hgp2 j
   have key:(clrF wb (r0.getD c 0) (r0.getD j 0) (p2.getD j 0)).toNat=(r0.getD j 0).toNat^^^gmN wb (r0.getD c 0).toNat (p2.getD j 0).toNat:=by
    unfold clrF;rw [bx_toNat hw hd (bRz hw _ _),edz hc0 hd2]
   have hrng:0<=clrF wb (r0.getD c 0) (r0.getD j 0) (p2.getD j 0):=by unfold clrF;exact (eEz hw hd (bRz hw _ _)).1
   by_cases hjc:j=c
   ·subst hjc;rw [Yb hic];refine etz hrng (by omega) ?_;rw [key,p2c];show _^^^gmN wb _ 1=0;rw [gmN_id hw (b9z hw hd),Nat.xor_self]
   ·have hjl:j<c:=by omega
    refine etz hrng (by split<;>omega) ?_;rw [key,p2z j hjl];show _^^^gmN wb _ 0=_;rw [c7z hw,Nat.xor_zero,Runit i r0 hr0 hic j hjl]
 ·intro v hv hin hz0;refine h.inj v hv hin ?_;have z2:evN wb p2 v=0:=hz0 p2 oldc;intro r hr;rcases Rall r hr with rfl|⟨i,hic,hi⟩
  ·have h1:gmN wb a (evN wb p2 v)=0:=by rw [z2,c7z hw]
   have e3:gmN wb a i.toNat=1:=hinv;rw [e2, <-gmN_asc hw haN hiN,e3] at h1;rwa [gmN_idl hw (evN_lt hw r v hgp.2)] at h1
  ·have h1:=hz0 _ (old i r hi hic);rw [eclr i r v hi,z2,c7z hw,Nat.xor_zero] at h1;exact h1
theorem RI.all {n:Nat} {u b:List Nat} : ∀(m c:Nat) (W:List (List Int)),RI wb n u b c W->c+m=n->RI wb n u b n (redF wb m c W c).1/\(redF wb m c W c).2=n
 |0,c,W,h,e=>by
  have:c=n:=by omega
  subst this;exact ⟨h,rfl⟩
 |m+1,c,W,h,e=>by
  have hs:=h.step hw (by omega);unfold redF;rw [Yb (by rw [h.len];omega),hs.2];exact RI.all m (c+1) _ hs.1 (by omega)
end
end Go.Proofs.Xc
end
section
namespace Go.Proofs.Xc
open Go.RowKit Go.Proofs.Pw Go.Proofs.Pl Go.Proofs.Pm
attribute [local go_sem] bcz bdz bpz bqz a4z a5z bez bfz
def unitN (p:Int):Nat:=if p<=2 then 8 else if p<=4 then 16 else 1
def aheadN (p:Int):Nat:=if p=5 then 4 else 0
theorem rule_eq {p:Int} (h1:1<=p) (h2:p<=6) (k m:Int):cEz.f p k m=some ((unitN p:Int),(aheadN p:Int)):=by
 have:p=1\/p=2\/p=3\/p=4\/p=5\/p=6:=by omega
 rcases this with rfl|rfl|rfl|rfl|rfl|rfl<;>rfl
theorem w64 {x:Int} (h0: -1<=x) (h1:x<1000000000):wrap64 x=x:=by unfold wrap64;omega
theorem euz (p:Int):1<=unitN p/\unitN p<=16:=by unfold unitN;split<;>(try split)<;>omega
theorem aheadN_bd (p:Int):aheadN p<=4:=by unfold aheadN;split<;>omega
def sizeN (p:Int) (K n:Nat):Nat:=unitN p*max ((n+aheadN p+unitN p*K - 1) / (unitN p*K)) 1
theorem sizeN_le (p:Int) (K n:Nat) (hK:1<=K) (hK2:K<=8) (hn:n<=4096):sizeN p K n<=80000:=by
 have hu:=euz p;have ha:=aheadN_bd p
 have h1:(n+aheadN p+unitN p*K - 1) / (unitN p*K)<=4300:=by
  have h2:unitN p*K<=16*8:=Nat.mul_le_mul hu.2 hK2;exact Zt (Nat.div_le_self _ _) (by omega)
 unfold sizeN;exact Zt (Nat.mul_le_mul hu.2 (show max ((n+aheadN p+unitN p*K - 1) / (unitN p*K)) 1<=4300 by omega)) (by omega)
theorem size_ev (p:Int) (K M n:Nat) (hmay:aCz.f p (K:Int) (M:Int)=some true) (hn:n<=4096):Ev (fun k=>a6z.f k p (K:Int) (M:Int) (n:Int)) ((sizeN p K n:Int),0):=by
 obtain ⟨p1,p2,k1,k2,m1,m2⟩:=cDz hmay;have hu:=euz p;have ha:=aheadN_bd p;have hup:unitN p*K<=16*8:=Nat.mul_le_mul hu.2 (by omega);have hu1:1<=unitN p*K:=Nat.mul_pos hu.1 (by omega);refine Ev.of (fun k=>a6z.mono _ _ _ _ k) (k:=1) ?_;unfold a6z.f;rw [hmay,Zl,Ya rfl,show decide ((n:Int)<0)=false by simp];rw [a6z.j0];rw [Yb (by decide),Yb (by omega),rule_eq p1 p2,Zl]
 have w1:wrap64 ((unitN p:Int)*(K:Int))=((unitN p*K:Nat):Int):=by
  rw [<-Int.natCast_mul];unfold wrap64;omega
 dsimp only;rw [w1,Yb (by omega)]
 have w2:wrap64 (wrap64 (wrap64 ((n:Int)+(aheadN p:Int))+((unitN p*K:Nat):Int)) - 1)=((n+aheadN p+unitN p*K - 1:Nat):Int):=by
  generalize unitN p*K=s at hup hu1|-;generalize aheadN p=a at ha|-;rw [w64 (x:=(n:Int)+(a:Int)) (by omega) (by omega),w64 (x:=(n:Int)+(a:Int)+(s:Int)) (by omega) (by omega),w64 (x:=(n:Int)+(a:Int)+(s:Int) - 1) (by omega) (by omega)];omega
 rw [w2,show Int.tdiv ((n+aheadN p+unitN p*K - 1:Nat):Int) ((unitN p*K:Nat):Int)=(((n+aheadN p+unitN p*K - 1) / (unitN p*K):Nat):Int) from (Int.ofNat_tdiv _ _).symm];have hle:=sizeN_le p K n (by omega) (by omega) hn;unfold sizeN at hle|-;have hq:(n+aheadN p+unitN p*K - 1) / (unitN p*K)<=4300:=Zt (Nat.div_le_self _ _) (by omega);generalize (n+aheadN p+unitN p*K - 1) / (unitN p*K)=q at hle hq|-
 have w3:mx (wrap64 (q:Int)) 1=((max q 1:Nat):Int):=by
  rw [show wrap64 (q:Int)=(q:Int) by unfold wrap64;omega];unfold mx;split<;>omega
 rw [w3, <-Int.natCast_mul];rw [show wrap64 ((unitN p*max q 1:Nat):Int)=((unitN p*max q 1:Nat):Int) by unfold wrap64;omega]
theorem parV_len (L:Nat) (p:Int) (K M:Nat) (data:List (List Int)) (hmay:aCz.f p (K:Int) (M:Int)=some true):(parV L p K M data).length=M:=by
 obtain ⟨p1,p2,k1,k2,m1,m2⟩:=cDz hmay;unfold parV;rw [List.length_map,(d7z p K M (by omega) (by omega) (by omega) (by omega)).2]
theorem u8_xor (a b:Nat) (ha:a<256) (hb:b<256):Go.bits .xor .u8 (a:Int) (b:Int)=((a^^^b:Nat):Int):=by
 have h:a^^^b<2^8:=Nat.xor_lt_two_pow ha hb;have e: ∀x:Nat,x<256->(BitVec.ofInt 8 (x:Int)).toNat=x:=fun x hx=>by rw [BitVec.toNat_ofInt];omega
 show IntKind.u8.wrap ((BitVec.ofInt 8 (a:Int)^^^BitVec.ofInt 8 (b:Int)).toNat:Int)=_;rw [BitVec.toNat_xor,e a ha,e b hb];show ((a^^^b:Nat):Int) % 256=_;omega
def isB (l:List Int):Prop:= ∀x,x∈l->0<=x/\x<=255
theorem isB_of (l:List Int) (h:isB l): ∃n:List Nat,l=n.map (fun x:Nat=>(x:Int))/\ ∀x,x∈n->x<256:=by
 refine ⟨l.map Int.toNat,?_,fun x hx=> ?_⟩
 ·rw [List.map_map]
  conv=>lhs;rw [<-List.map_id l]
  exact List.map_congr_left (fun x hx=>by have:=h x hx;simp;omega)
 ·obtain ⟨y,hy,rfl⟩:=List.mem_map.1 hx;have:=h y hy;omega
def xorN (a b:List Nat):List Nat:=List.zipWith (fun x y=>x^^^y) a b
theorem xorB_nat: ∀(a b:List Nat),(∀x,x∈a->x<256)->(∀x,x∈b->x<256)->xorB (a.map fun x:Nat=>(x:Int)) (b.map fun x:Nat=>(x:Int))=(xorN a b).map fun x:Nat=>(x:Int)
 | [],_,_,_=>by simp [xorB,xorN]
 |_::_, [],_,_=>by simp [xorB,xorN]
 |x::a,y::b,ha,hb=>by
  have h:=xorB_nat a b (fun q hq=>ha q (List.mem_cons_of_mem _ hq)) (fun q hq=>hb q (List.mem_cons_of_mem _ hq))
  unfold xorB xorN at *
  simp only [List.map_cons,List.zipWith_cons_cons];rw [h,u8_xor x y (ha x (List.mem_cons_self ..)) (hb y (List.mem_cons_self ..))]
theorem xorN_lt {w:Nat} : ∀(a b:List Nat),(∀x,x∈a->x<2^w)->(∀x,x∈b->x<2^w)-> ∀x,x∈xorN a b->x<2^w:=by
 intro a b ha hb x hx;unfold xorN at hx;obtain ⟨i,hi,rfl⟩:=List.mem_iff_getElem.1 hx;rw [List.getElem_zipWith];exact Nat.xor_lt_two_pow (ha _ (List.getElem_mem ..)) (hb _ (List.getElem_mem ..))
def pairN:List Nat->List Nat
 |x::y::r=>(x+256*y)::pairN r
 |_=> []
def castN (l:List Nat):List Int:=l.map fun x:Nat=>(x:Int)
theorem eXz (x y:Nat): ∀(l:List Nat),l.length % 2=0->pairN (l++ [x,y])=pairN l++ [x+256*y]
 | [],_=>rfl
 | [_],h=>by simp at h
 |u::v::l,h=>by
  have ih:=eXz x y l (by simp at h;omega);show (u+256*v)::pairN (l++ [x,y])=(u+256*v)::pairN l++ [x+256*y];rw [ih];rfl
theorem eIz: ∀(l:List Nat),(pairN l).length=l.length / 2
 | [] =>rfl
 | [_] =>by simp [pairN]
 |u::v::l=>by
  have ih:=eIz l;show (pairN l).length+1=(l.length+2) / 2;omega
theorem wTo_two (n:List Nat) (hb: ∀x,x∈n->x<256): ∀j,2*j<=n.length->wTo 2 (castN n) (2*j)=castN (pairN (n.take (2*j)))++List.replicate (n.length / 2 - j) 0
 |0,_=>by
  show wTo 2 (castN n) 0=_;unfold wTo castN;simp [pairN]
 |j+1,hj=>by
  have ih:=wTo_two n hb j (by omega);obtain ⟨x,hx⟩: ∃x,n[2*j]?=some x:=⟨_,Zf (by omega)⟩;obtain ⟨y,hy⟩: ∃y,n[2*j+1]?=some y:=⟨_,Zf (by omega)⟩;have hx8:=hb x (Zo hx);have hy8:=hb y (Zo hy);have gx:(castN n).getD (2*j) 0=(x:Int):=by unfold castN;rw [Zm,List.getElem?_map,hx];rfl
  have gy:(castN n).getD (2*j+1) 0=(y:Int):=by unfold castN;rw [Zm,List.getElem?_map,hy];rfl
  have hpl:(castN (pairN (n.take (2*j)))).length=j:=by
   unfold castN;rw [List.length_map,eIz,List.length_take];omega
  have e1:wTo 2 (castN n) (2*j+1)=castN (pairN (n.take (2*j)))++(x:Int)::List.replicate (n.length / 2 - (j+1)) 0:=by
   have e:wTo 2 (castN n) (2*j+1)=if (2*j) % 2=0 then (wTo 2 (castN n) (2*j)).set ((2*j) / 2) (wrap64 ((castN n).getD (2*j) 0)) else (wTo 2 (castN n) (2*j)).set ((2*j) / 2) (wrap64 ((wTo 2 (castN n) (2*j)).getD ((2*j) / 2) 0+wrap64 (256*wrap64 ((castN n).getD (2*j) 0)))):=rfl
   rw [e,Ya (by omega),ih,gx,show 2*j / 2=j by omega,w64 (by omega) (by omega),List.set_append_right _ _ (by omega),hpl,Nat.sub_self,show n.length / 2 - j=(n.length / 2 - (j+1))+1 by omega,List.replicate_succ,Zh]
  have e2:wTo 2 (castN n) (2*j+1+1)=if (2*j+1) % 2=0 then (wTo 2 (castN n) (2*j+1)).set ((2*j+1) / 2) (wrap64 ((castN n).getD (2*j+1) 0)) else (wTo 2 (castN n) (2*j+1)).set ((2*j+1) / 2) (wrap64 ((wTo 2 (castN n) (2*j+1)).getD ((2*j+1) / 2) 0+wrap64 (256*wrap64 ((castN n).getD (2*j+1) 0)))):=rfl
  have hgd:(castN (pairN (n.take (2*j)))++(x:Int)::List.replicate (n.length / 2 - (j+1)) 0).getD j 0=(x:Int):=by
   rw [Zm,List.getElem?_append_right (by omega),hpl,Nat.sub_self];rfl
  rw [show 2*(j+1)=2*j+1+1 by omega,e2,Yb (by omega),e1,gy,show (2*j+1) / 2=j by omega,hgd,w64 (x:=(y:Int)) (by omega) (by omega),w64 (x:=256*(y:Int)) (by omega) (by omega),w64 (x:=(x:Int)+256*(y:Int)) (by omega) (by omega),List.set_append_right _ _ (by omega),hpl,Nat.sub_self,Zh]
  have e3:n.take (2*j+1+1)=n.take (2*j)++ [x,y] :=by
   rw [List.take_add_one,List.take_add_one,hx,hy];simp
  rw [e3,eXz x y _ (by rw [List.length_take];omega)];unfold castN;simp
theorem words16 (n:List Nat) (hb: ∀x,x∈n->x<256) (he:n.length % 2=0):wordsF 16 (castN n)=castN (pairN n):=by
 unfold wordsF;have h:=wTo_two n hb (n.length / 2) (by omega);rw [show wN 16=2 from rfl,show (castN n).length=2*(n.length / 2) by unfold castN;rw [List.length_map];omega,h,Nat.sub_self,List.take_of_length_le (by omega)];simp
theorem wTo_one (b:List Int) (hb: ∀x,x∈b->0<=x/\x<=255): ∀i,i<=b.length->wTo 1 b i=b.take i++List.replicate (b.length - i) 0
 |0,_=>by unfold wTo;simp
 |i+1,hi=>by
  have ih:=wTo_one b hb i (by omega);obtain ⟨x,hx⟩: ∃x,b[i]?=some x:=⟨_,Zf (by omega)⟩;have hxb:=hb x (Zo hx);have hg:b.getD i 0=x:=by rw [Zm,hx];rfl
  have e:wTo 1 b (i+1)=if i % 1=0 then (wTo 1 b i).set (i / 1) (wrap64 (b.getD i 0)) else (wTo 1 b i).set (i / 1) (wrap64 ((wTo 1 b i).getD (i / 1) 0+wrap64 (256*wrap64 (b.getD i 0)))):=rfl
  rw [e,Ya (Nat.mod_one i),ih,hg,Nat.div_one,w64 (by omega) (by omega),List.set_append_right _ _ (by simp;omega),List.take_add_one,hx];rw [show i - (b.take i).length=0 by simp;omega,show b.length - i=(b.length - (i+1))+1 by omega,List.replicate_succ];simp
def mapN (f:Nat->Nat) (l:List Nat):List Nat:=l.map f
def mN (wb c:Int) (x:Nat):Nat:=(gmul wb c (x:Int)).toNat
theorem mN_cast {wb:Int} (hw:wb=8\/wb=16) (c:Int) (l:List Nat):(castN l).map (gmul wb c)=castN (mapN (mN wb c) l):=by
 unfold castN mapN;rw [List.map_map,List.map_map];refine List.map_congr_left (fun x _=> ?_);have:=(bRz hw c (x:Int)).1;show gmul wb c (x:Int)=((gmul wb c (x:Int)).toNat:Int);omega
theorem fsize8:fsize 8=256:=rfl
theorem fsize16:fsize 16=65536:=rfl
theorem mN_lt8 (c:Int) (x:Nat):mN 8 c x<256:=by
 have:=bRz (.inl rfl:(8:Int)=8\/(8:Int)=16) c (x:Int);rw [fsize8] at this;unfold mN;omega
def flatN:List Nat->List Nat
 | [] => []
 |x::r=>(x % 256)::(x / 256 % 256)::flatN r
theorem bytes16: ∀(l:List Nat),bytesF 16 (castN l)=castN (flatN l)
 | [] =>rfl
 |x::r=>by
  have h3:bytesF 16 ((x:Int)::castN r)=byteF 16 (x:Int)++bytesF 16 (castN r):=by unfold bytesF;rw [List.flatMap_cons]
  show bytesF 16 ((x:Int)::castN r)=((x % 256:Nat):Int)::((x / 256 % 256:Nat):Int)::castN (flatN r);rw [h3,bytes16 r];show [(x:Int) % 256,(x:Int) / 256 % 256] ++_=_;simp
theorem bytes8: ∀(l:List Nat),(∀x,x∈l->x<256)->bytesF 8 (castN l)=castN l
 | [],_=>rfl
 |x::r,h=>by
  have h3:bytesF 8 ((x:Int)::castN r)=byteF 8 (x:Int)++bytesF 8 (castN r):=by unfold bytesF;rw [List.flatMap_cons]
  have hx:=h x (List.mem_cons_self ..);show bytesF 8 ((x:Int)::castN r)=(x:Int)::castN r;rw [h3,bytes8 r (fun q hq=>h q (List.mem_cons_of_mem _ hq))];show [(x:Int) % 256] ++_=_;rw [show (x:Int) % 256=(x:Int) by omega];rfl
theorem flatN_lt: ∀(a:List Nat) (x:Nat),x∈flatN a->x<256
 | [],_,h=>by simp [flatN] at h
 |u::a,x,h=>by
  rcases List.mem_cons.1 (show x∈(u % 256)::(u / 256 % 256)::flatN a from h) with rfl|h
  ·omega
  ·rcases List.mem_cons.1 h with rfl|h
   ·omega
   ·exact flatN_lt a x h
def mulN (wb c:Int) (n:List Nat):List Nat:=if wb=8 then mapN (mN 8 c) n else flatN (mapN (mN 16 c) (pairN n))
theorem mapN_lt8 (c:Int) (n:List Nat): ∀x,x∈mapN (mN 8 c) n->x<256:=by
 intro x hx;obtain ⟨y, -,rfl⟩:=List.mem_map.1 hx;exact mN_lt8 c y
theorem mulN_lt (wb c:Int) (n:List Nat): ∀x,x∈mulN wb c n->x<256:=by
 unfold mulN;split
 ·exact mapN_lt8 c n
 ·exact flatN_lt _
theorem words8 (n:List Nat) (hb: ∀x,x∈n->x<256):wordsF 8 (castN n)=castN n:=by
 unfold wordsF
 rw [show wN 8=1 from rfl,wTo_one (castN n) (fun x hx=>by
  obtain ⟨y,hy,rfl⟩:=List.mem_map.1 hx;have:=hb y hy
  omega) _ (Zv _),Nat.sub_self,List.take_length]
 simp
theorem mulB_nat {wb:Int} (hw:wb=8\/wb=16) (c:Int) (n:List Nat) (hb: ∀x,x∈n->x<256) (he:n.length % wN wb=0):mulB wb c (castN n)=castN (mulN wb c n):=by
 unfold mulB mulN;rcases hw with rfl|rfl
 ·rw [words8 n hb,mN_cast (.inl rfl),bytes8 _ (mapN_lt8 c n),Ya rfl]
 ·rw [words16 n hb he,mN_cast (.inr rfl),bytes16,Yb (by decide)]
theorem eqb_loop (x y:List Int) (n:Nat) (hx:x.length=n) (hy:y.length=n) (hn:n<=100000000): ∀(m i:Nat),i+m=n->Ev (fun k=>aTz.l0 k x y (n:Int) (i:Int)) (decide (x.drop i=y.drop i)):=by
 intro m
 induction m with
 |zero=>
  intro i hi;refine Ev.step (f:=fun _=>some true) (fun k=> ?_) ?_
  ·rw [aTz.l0,Yb (by omega)]
  ·rw [List.drop_of_length_le (by omega),List.drop_of_length_le (by omega)];exact Ev.now _
 |succ m ih=>
  intro i hi;have hix:i<x.length:=by omega
  have hiy:i<y.length:=by omega
  have e1:rd x (i:Int)=x[i] :=by unfold rd;rw [Zu,Zm,Zf hix];rfl
  have e2:rd y (i:Int)=y[i] :=by unfold rd;rw [Zu,Zm,Zf hiy];rfl
  have d1:=List.drop_eq_getElem_cons hix;have d2:=List.drop_eq_getElem_cons hiy;by_cases h:x[i] =y[i]
  ·refine Ev.step (f:=fun k=>aTz.l0 k x y (n:Int) ((i+1:Nat):Int)) (fun k=> ?_) ?_
   ·rw [aTz.l0,Ya (by omega),Ya (by omega),Ya (by omega),Ya (by omega),e1,e2,Ya h,dOz (by omega)]
   ·have:=ih (i+1) (by omega);rw [d1,d2];rw [show decide (x[i] ::x.drop (i+1)=y[i] ::y.drop (i+1))=decide (x.drop (i+1)=y.drop (i+1)) by rw [h];simp only [List.cons.injEq,true_and]];exact this
  ·refine Ev.step (f:=fun _=>some false) (fun k=> ?_) ?_
   ·rw [aTz.l0,Ya (by omega),Ya (by omega),Ya (by omega),Ya (by omega),e1,e2,Yb h]
   ·rw [d1,d2,Ze (by intro hh;injection hh with h1 _;exact h h1)];exact Ev.now _
theorem eqb_ev (x y:List Int) (hx:x.length<=100000000):Ev (fun k=>aTz.f k x y) (decide (x=y)):=by
 by_cases hl:x.length=y.length
 ·have h:=eqb_loop x y x.length rfl hl.symm hx x.length 0 (by omega);refine Ev.congr (fun k=> ?_) (by simpa using h);unfold aTz.f;rw [Ya (by omega)]
 ·refine Ev.congr (f:=fun _=>some false) (fun k=> ?_) ?_
  ·unfold aTz.f;rw [Yb (by omega)]
  ·rw [Ze (by rintro rfl;exact hl rfl)];exact Ev.now _
theorem eqRows_dec: ∀(p q:List (List Int)),(∀x,x∈p->x.length<=100000000)->Ev (fun k=>eqRows k p q) (decide (p=q))
 | [], [],_=>by simp only [eqRows];exact Ev.now _
 | [],_::_,_=>by simp only [eqRows];exact Ev.now _
 |_::_, [],_=>by simp only [eqRows];exact Ev.now _
 |x::xs,y::ys,h=>by
  simp only [eqRows];refine Ev.bind (eqb_ev x y (h x (List.mem_cons_self ..))) ?_;by_cases hxy:x=y
  ·refine Ev.congr (f:=fun k=>eqRows k xs ys) (fun k=>by rw [Ya (Zd hxy)]) ?_;have:=eqRows_dec xs ys (fun z hz=>h z (List.mem_cons_of_mem _ hz))
   simpa [hxy] using this
  ·refine Ev.congr (f:=fun _=>some false) (fun k=>by rw [Ze hxy,Yb (by decide)]) ?_;rw [Ze (by intro hh;injection hh with h1 _;exact hxy h1)];exact Ev.now _
theorem eqFunc_dec (p q:List (List Int)) (hl:p.length<=1000000) (h: ∀x,x∈p->x.length<=100000000):Ev (fun k=>eqFunc k p q) (decide (p=q)):=by
 by_cases hpq:p.length=q.length
 ·refine Ev.congr (fun k=> ?_) (eqRows_dec p q h);unfold eqFunc;rw [Ya hpq,Ya hl]
 ·refine Ev.congr (f:=fun _=>some false) (fun k=> ?_) ?_
  ·unfold eqFunc;rw [Yb hpq]
  ·rw [Ze (by rintro rfl;exact hpq rfl)];exact Ev.now _
theorem ver_dec (p : Int) (K M L : Nat) (data Q : List (List Int)) (hmay : aCz.f p (K : Int) (M : Int) = some true) (hK : data.length = K) (hL : L <= 1000000) (hd : L % wN (pbits p) = 0) (hr : ∀ r, r ∈ data -> r.length = L) (hQ : Q.length = M) :
  Ev (fun k=>buz.f k p (K:Int) (M:Int) (data++Q)) (decide (parV L p K M data=Q)):=by
 have h1:=par_ev p K M L data hmay hK hL hd hr;have hl:=parV_len L p K M data hmay;obtain ⟨p1,p2,k1,k2,m1,m2⟩:=cDz hmay
 have h2:=eqFunc_dec (parV L p K M data) Q (by omega) (fun x hx=>by
  unfold parV at hx;obtain ⟨c, -,rfl⟩:=List.mem_map.1 hx
  rw [dotV_len hd hr];omega)
 have ht:(data++Q).take K=data:=by rw [<-hK,List.take_left'];rfl
 have hdr:(data++Q).drop K=Q:=by rw [<-hK,List.drop_left'];rfl
 refine Ev.congr (f:=fun k=>(aGz.f k p (K:Int) (M:Int) data).bind fun t=>if t.2=0 then eqFunc k t.1 Q else some false) (fun k=> ?_) ?_
 ·unfold buz.f;rw [hmay,Zl,Ya rfl,Ya (by rw [List.length_append,hK,hQ];omega),Zu,ht,hdr]
 ·refine Ev.bind h1 ?_;refine Ev.congr (fun k=> ?_) h2;rw [Ya rfl]
theorem evz: ∀b,b<13->Go.bits .xor .i64 0 ((b:Nat):Int)=(b:Int):=by decide+kernel
def mayQ (q:Int) (K M:Nat):Bool:=aCz.f q (K:Int) (M:Int)==some true
def verB (S:Nat) (q:Int) (K M:Nat) (L:List (List Int)):Bool:=decide (parV S q K M (L.take K)=L.drop K)
def longB (S:Nat) (q:Int):Bool:=decide (0<S)&&decide (S % unitN q=0)
def passB (S:Nat) (q:Int) (K M:Nat) (L:List (List Int)):Bool:=mayQ q K M&&(longB S q&&verB S q K M L)
theorem six {q:Int} (h1:1<=q) (h2:q<=6):q=1\/q=2\/q=3\/q=4\/q=5\/q=6:=by omega
theorem unit_even {q:Int} (h1:1<=q) (h2:q<=6) {S:Nat} (h:S % unitN q=0):S % wN (pbits q)=0:=by
 have one: ∀p:Int,wN (pbits p)=1->S % wN (pbits p)=0:=fun p hp=>by rw [hp];exact Nat.mod_one S
 rcases six h1 h2 with rfl|rfl|rfl|rfl|rfl|rfl
 ·exact one 1 rfl
 ·have e1:wN (pbits 2)=2:=rfl;have e2:S % 8=0:=h;rw [e1];omega
 ·exact one 3 rfl
 ·exact one 4 rfl
 ·exact one 5 rfl
 ·exact one 6 rfl
theorem size_unit {q:Int} (h1:1<=q) (h2:q<=6):sizeN q 8 0=unitN q/\aCz.f q ((8:Nat):Int) ((1:Nat):Int)=some true:=by
 rcases six h1 h2 with rfl|rfl|rfl|rfl|rfl|rfl<;>exact ⟨rfl,rfl⟩
theorem long_ev (S:Nat) (q K:Int) (h1:1<=q) (h2:q<=6) (L:List (List Int)) (h0:0<L.length) (hS:(rd_L1 L 0).length=S):Ev (fun k=>bHz.f k L K q) (longB S q):=by
 obtain ⟨e1,e2⟩:=size_unit h1 h2;have hs:=size_ev q 8 1 0 e2 (by omega);rw [e1] at hs;have hu:=euz q;refine Ev.congr (f:=fun k=>(a6z.f k q ((8:Nat):Int) ((1:Nat):Int) ((0:Nat):Int)).bind fun bt=>if (S:Int)>0 then (if bt.1=0 then none else some (((S:Int) % bt.1)==0)) else some false) (fun k=> ?_) ?_
 ·unfold bHz.f;rw [Ya (by omega),hS];rfl
 ·refine Ev.bind hs ?_;refine Ev.congr (f:=fun _=>some (longB S q)) (fun k=> ?_) (Ev.now _);dsimp only;unfold longB;by_cases hz:0<S
  ·rw [Ya (by omega),Yb (by omega),Zd hz,Bool.true_and];congr 1
   have e3:((S:Int) % (unitN q:Int))=((S % unitN q:Nat):Int):=by omega
   rw [e3];generalize S % unitN q=m;by_cases hm:m=0
   ·rw [hm];rfl
   ·rw [Ze hm];exact Zq (by omega)
  ·rw [Yb (by omega),Ze hz];rfl
theorem pass_ev (q:Int) (K M S:Nat) (h1:1<=q) (h2:q<=6) (L:List (List Int)) (hL:L.length=K+M) (hbig:K+M<=1000000) (h0:0<K+M) (hr: ∀r,r∈L->r.length=S) (hS:S<=1000000):Ev (fun k=>blz.f k L (K:Int) q) (passB S q K M L):=by
 have hw:wrap64 ((L.length:Int) - (K:Int))=(M:Int):=by rw [hL];unfold wrap64;omega
 have hrd:(rd_L1 L 0).length=S:=by
  unfold rd_L1;rw [show Int.toNat 0=0 from rfl,Zm,Zf (by omega)];exact hr _ (List.getElem_mem _)
 have hlo:=long_ev S q (K:Int) h1 h2 L (by omega) hrd;refine Ev.congr (f:=fun k=>(aCz.f q (K:Int) (M:Int)).bind fun t852=>(if t852=true then ((bHz.f k L (K:Int) q).bind fun t853=>(if t853=true then ((buz.f k q (K:Int) (M:Int) L).bind fun t854=>(some t854)) else (some false))) else (some false))) (fun k=> ?_) ?_
 ·unfold blz.f bEz.f;rw [Zl,hw]
 obtain ⟨b,hb⟩:=dXz q (K:Int) (M:Int);unfold passB mayQ;simp only [hb,Zl]
 cases b with
 |false=>exact Ev.now _
 |true=>
  refine Ev.congr (f:=fun k=>(bHz.f k L (K:Int) q).bind fun t853=>(if t853=true then ((buz.f k q (K:Int) (M:Int) L).bind fun t854=>(some t854)) else (some false))) (fun k=>by rw [Ya rfl]) ?_;refine Ev.bind hlo ?_
  cases hlb:longB S q with
  |false=>
   refine Ev.congr (fun k=> ?_) (Ev.now _);rw [Yb (by decide)];rfl
  |true=>
   unfold longB at hlb;simp only [Bool.and_eq_true,decide_eq_true_eq] at hlb;have hv:=ver_dec q K M S (L.take K) (L.drop K) hb (by rw [List.length_take];omega) hS (unit_even h1 h2 hlb.2) (fun r hr'=>hr r (List.mem_of_mem_take hr')) (by rw [List.length_drop];omega);rw [List.take_append_drop] at hv;refine Ev.congr (f:=fun k=>(buz.f k q (K:Int) (M:Int) L).bind fun t854=>(some t854)) (fun k=>by rw [Ya rfl]) ?_;refine Ev.bind hv ?_;refine Ev.congr (fun k=> ?_) (Ev.now _);rfl
theorem trial_l_ev (L:List (List Int)) (K:Int) (b:Int->Bool): ∀(ps acc:List Int),(∀q,q∈ps->Ev (fun k=>blz.f k L K q) (b q))->Ev (fun k=>bgz.l k L K ps acc) (acc++ps.filter b)
 | [],acc,_=>by
  refine Ev.congr (fun k=> ?_) (Ev.now _);rw [bgz.l];simp
 |p::ps,acc,h=>by
  refine Ev.congr (f:=fun k=>(blz.f k L K p).bind fun t=>bgz.l k L K ps (if t=true then acc++ [p] else acc)) (fun k=>by rw [bgz.l]) ?_;refine Ev.bind (h p (List.mem_cons_self ..)) ?_;have ih:=trial_l_ev L K b ps (if b p=true then acc++ [p] else acc) (fun q hq=>h q (List.mem_cons_of_mem _ hq))
  cases hp:b p with
  |true=>
   rw [hp,Ya rfl] at ih;rw [List.filter_cons_of_pos hp,Ya rfl];rwa [List.append_assoc] at ih
  |false=>
   rw [hp,Yb (by decide)] at ih;rw [List.filter_cons_of_neg (by rw [hp];decide),Yb (by decide)];exact ih
def all6:List Int:= [1,2,3,4,5,6]
theorem all_ev:Ev (fun k=>bvz.f k) all6:=Ev.of (fun k=>bvz.mono k) (k:=8) kr_
theorem all6_mem {q:Int} :q∈all6↔1<=q/\q<=6:=by
 unfold all6;simp only [List.mem_cons,List.not_mem_nil,or_false];omega
theorem trial_ev (L:List (List Int)) (K:Int) (b:Int->Bool) (h: ∀q,1<=q->q<=6->Ev (fun k=>blz.f k L K q) (b q)):Ev (fun k=>bgz.f k L K) (all6.filter b):=by
 unfold bgz.f;refine Ev.bind all_ev ?_;refine Ev.congr (f:=fun k=>bgz.l k L K all6 []) (fun k=>by rw [Ya (by decide)]) ?_;have:=trial_l_ev L K b all6 [] (fun q hq=>h q (all6_mem.1 hq).1 (all6_mem.1 hq).2);rwa [List.nil_append] at this
theorem trial_ev2 (K M S:Nat) (L:List (List Int)) (hL:L.length=K+M) (hbig:K+M<=1000000) (h0:0<K+M) (hr: ∀r,r∈L->r.length=S) (hS:S<=1000000):Ev (fun k=>bgz.f k L (K:Int)) (all6.filter fun q=>passB S q K M L):=
 trial_ev L (K:Int) _ (fun q h1 h2=>pass_ev q K M S h1 h2 L hL hbig h0 hr hS)
theorem cKz {wb:Int} (hw:wb=8\/wb=16) {a v:Nat} (ha:a<fN wb) (hv:v<fN wb) (h0:a≠0) (h:gmN wb a v=1):ginv wb (a:Int)=(v:Int):=by
 have hr:=eVz hw (a:Int);obtain ⟨i,hi⟩: ∃i:Nat,ginv wb (a:Int)=(i:Int):=⟨(ginv wb (a:Int)).toNat,by omega⟩;have h1:=gmN_inv hw ha h0;rw [hi,Zu] at h1;have hil:i<fN wb:=by have:=b9z hw hr;rw [hi] at this;simpa using this
 have h2:gmN wb v (gmN wb a i)=v:=by rw [h1,gmN_id hw hv]
 rw [<-gmN_asc hw hv ha,gmN_comm hw hv ha,h,gmN_idl hw hil] at h2;rw [hi,h2]
theorem g16_2:ginv 16 2=34821:=cKz (.inr rfl) (a:=2) (v:=34821) (by decide) (by decide) (by decide) (by decide+kernel)
theorem g16_3:ginv 16 3=61446:=cKz (.inr rfl) (a:=3) (v:=61446) (by decide) (by decide) (by decide) (by decide+kernel)
theorem g16_4:ginv 16 4=52231:=cKz (.inr rfl) (a:=4) (v:=52231) (by decide) (by decide) (by decide) (by decide+kernel)
def awake16.b:List Int:= [97,98,99,100,101,102,103,104,105,106,107,108,109,110,111,112,113,114,115,116,117,118,119,120]
def awake16.l:List (List Int):= [[97,98,99,100,101,102,103,104], [105,106,107,108,109,110,111,112], [113,114,115,116,117,118,119,120], [121,122,123,124,125,126,127,96], [0,0,0,0,0,0,0,235]]
theorem dYz (i:Nat) {S:Nat} {q:Int} {K M:Nat} {L:List (List Int)} (h:((parV S q K M (L.take K))[i]?==(L.drop K)[i]?)=false):verB S q K M L=false:=by
 unfold verB;refine Ze (fun he=> ?_);rw [he] at h;simp at h
theorem parV_0 (S:Nat) (q:Int) (K M:Nat) (data:List (List Int)) (c:List Int) (h:(parM q K M)[0]?=some c):(parV S q K M data)[0]?=some (dotV S (pbits q) c data):=by
 unfold parV;rw [List.getElem?_map,h];rfl
theorem awake16.m2:(parM 2 3 2)[0]?=some [34821,61446,52231] :=by
 have h:(parM 2 3 2)[0]?=some [ginv 16 2,ginv 16 3,ginv 16 4] :=rfl;rw [h,g16_2,g16_3,g16_4]
theorem awake16.m3:(parM 2 2 3)[0]?=some [61446,52231] :=by
 have h:(parM 2 2 3)[0]?=some [ginv 16 3,ginv 16 4] :=rfl;rw [h,g16_3,g16_4]
theorem awake16.v2:verB 8 2 3 2 awake16.l=false:=dYz 0 (by rw [parV_0 8 2 3 2 _ _ awake16.m2];kernel_rfl)
theorem awake16.v3:verB 8 2 2 3 awake16.l=false:=dYz 0 (by rw [parV_0 8 2 2 3 _ _ awake16.m3];kernel_rfl)
theorem awake16.p1:passB 8 1 3 2 awake16.l=true:=by kernel_rfl
theorem awake16.p5:verB 8 5 3 2 awake16.l=false:=dYz 1 kr_
theorem awake16.p6:verB 8 6 3 2 awake16.l=false:=dYz 1 kr_
theorem awake16.q1:verB 8 1 2 3 awake16.l=false:=dYz 0 kr_
theorem awake16.q5:verB 8 5 2 3 awake16.l=false:=dYz 0 kr_
theorem awake16.q6:verB 8 6 2 3 awake16.l=false:=dYz 0 kr_
theorem dAz {S:Nat} {q:Int} {K M:Nat} {L:List (List Int)} (h:verB S q K M L=false):passB S q K M L=false:=by
 unfold passB;rw [h,Bool.and_false,Bool.and_false]
theorem awake16.len: ∀r,r∈awake16.l->r.length=8:=by decide
theorem awake16.t3:Ev (fun k=>bgz.f k awake16.l 3) [1] :=by
 have h:=trial_ev2 3 2 8 awake16.l rfl (by decide) (by decide) awake16.len (by decide)
 have e:(all6.filter fun q=>passB 8 q 3 2 awake16.l)= [1] :=by
  unfold all6;simp only [List.filter_cons,awake16.p1,dAz awake16.v2,dAz awake16.p5,dAz awake16.p6,show passB 8 3 3 2 awake16.l=false from rfl,show passB 8 4 3 2 awake16.l=false from rfl,List.filter_nil];rfl
 rw [e] at h;exact h
theorem awake16.t2:Ev (fun k=>bgz.f k awake16.l 2) [] :=by
 have h:=trial_ev2 2 3 8 awake16.l rfl (by decide) (by decide) awake16.len (by decide)
 have e:(all6.filter fun q=>passB 8 q 2 3 awake16.l)= [] :=by
  unfold all6;simp only [List.filter_cons,dAz awake16.q1,dAz awake16.v3,dAz awake16.q5,dAz awake16.q6,show passB 8 3 2 3 awake16.l=false from rfl,show passB 8 4 2 3 awake16.l=false from rfl,List.filter_nil];rfl
 rw [e] at h;exact h
theorem awake16.t1:Ev (fun k=>bgz.f k [[97], [97]] 1) [5,6] :=by
 have h:=trial_ev2 1 1 1 [[97], [97]] rfl (by decide) (by decide) (by decide) (by decide)
 have e:(all6.filter fun q=>passB 1 q 1 1 [[97], [97]])= [5,6] :=by
  unfold all6;simp only [List.filter_cons,show passB 1 1 1 1 [[97], [97]] =false from rfl,show passB 1 2 1 1 [[97], [97]] =false from rfl,show passB 1 3 1 1 [[97], [97]] =false from rfl,show passB 1 4 1 1 [[97], [97]] =false from rfl,show passB 1 5 1 1 [[97], [97]] =true by kernel_rfl,show passB 1 6 1 1 [[97], [97]] =true by kernel_rfl,List.filter_nil];rfl
 rw [e] at h;exact h
theorem awake16.k3:Ev (fun k=>cGz.f k awake16.l 3) (1,0):=Ev.bind awake16.t3 (Ev.congr (fun _=>rfl) (Ev.now _))
theorem awake16.k1:Ev (fun k=>cGz.f k [[97], [97]] 1) (0,6):=Ev.bind awake16.t1 (Ev.congr (fun _=>rfl) (Ev.now _))
theorem awake16.enc:diz.f 199 1 3 2 awake16.b=some (awake16.l,0):=by kernel_rfl
theorem C_numsF {k:IntKind} {w:World} {g:Nat} {t:TypeId} {xs:List Int} {fr:Nat×Nat} (h:w.heap[g]?=some (.cells (nums k xs).toArray t fr)) (hl:xs.length<=9223372036854775807):Kd.C (Kd.int k) w (some ⟨g,0,none⟩) xs.length xs:=by
 refine ⟨rfl,hl,fun _=>⟨_,rfl,fun j p hp=>⟨[.int k p],rfl,rfl,fun i u hu=> ?_⟩⟩⟩;obtain ⟨hj,rfl⟩:=Zk hp
 cases i with
 |succ i=>simp at hu
 |zero=>
  obtain rfl:Value.int k xs[j] =u:=by simpa using hu
  have e:(⟨g,0,none⟩:Addr).add (j*(Kd.int k).sz+0)=⟨g,j,none⟩:=by
   show (⟨g,0,none⟩:Addr).add (j*1+0)=_;unfold Addr.add;split<;>simp_all
  rw [e,cell_of_row w g j _ t fr h];simp [nums,hj]
def cuz.f (_:Nat):Option (Bool):=some true
theorem cuz.calls (k:Nat) (r:Bool) (w:World) (h:cuz.f k=some r):
 Calls Tryz.prog 35 #[] w fun e w'=>e= .returned (.bool r)/\Below w.heap.size w w':=by
 obtain rfl:true=r:=by injection h
 clear h;have kc:=fun (w:World) (C:Array Value) (n c:Nat)=>Lib.run_convert_bytes_const (P:=Tryz.prog) w 34 5 C n c Tryz.underlying34 Tryz.underlying5
 obtain ⟨k3,h3⟩:=Ev.rounds awake16.k3;obtain ⟨k1,h1⟩:=Ev.rounds awake16.k1;obtain ⟨k2,h2⟩:=Ev.rounds awake16.t2;have HE:=Za (fun (W:World) (A:Option Addr) (hr:Kd.C (Kd.int .u8) W A awake16.b.length awake16.b)=>diz.calls 199 1 3 2 A 24 awake16.b awake16.l 0 W hr (by decide) awake16.enc);have HP3:=Za (fun (W:World) (A:Option Addr) (c:Nat) (hr:Kd.C (Kd.slice 5 (Kd.int .u8)) W A awake16.l.length awake16.l) (hc:5<=c)=>cGz.calls k3 A c awake16.l 3 1 0 W hr hc h3);have HP1:=Za (fun (W:World) (A:Option Addr) (hr:Kd.C (Kd.slice 5 (Kd.int .u8)) W A [[97], [97]].length [[97], [97]])=>cGz.calls k1 A 2 [[97], [97]] 1 0 6 W hr (by decide) h1);have HT2:=Za (fun (W:World) (A:Option Addr) (c:Nat) (hr:Kd.C (Kd.slice 5 (Kd.int .u8)) W A awake16.l.length awake16.l) (hc:5<=c)=>bgz.calls k2 A c awake16.l 2 [] W hr hc h2);have hl5:awake16.l.length=5:=rfl;rw [hl5] at HP3 HT2;clear h1 h2 h3;go_enter Tryz.func35,Tryz.ntmps35
 go_wp2_with fail
 refine (HE.out _ (some ⟨w.heap.size,0,none⟩) (C_numsF (fr:=(24,25)) (heap_alloc_new _ _) (by decide))).mono ?_;rintro e w1 ⟨v,rfl,q1,q2⟩;have HB1:=Za ((anz (Zw _ _) _).trans (q2.mono (by simp)):Below w.heap.size w w1);obtain ⟨gg,c,rfl, -, -, -⟩:=Kd.N_form q1 (by decide);obtain ⟨-,hc,hC⟩:=Kd.bLz q1;have HC:=Za hC;have HCC:=Za hc;rw [hl5] at HC HCC|-;have HP:=Za (HP3.out w1 _ c HC.out HCC.out);clear q1 q2 hC hc HE HP3
 go_wp2_with fail
 refine HP.out.mono ?_;rintro e w2 ⟨rfl,q2⟩;have HB2:=Za (HB1.out.trans (q2.mono HB1.out.size));have HC2:=Za (Kd.azz HC.out q2);clear q2 HP HC HB1
 have kd: ∀(W:World) (o:Obj) (C:Array Value) (n c:Nat),Sem.run Tryz.prog (convert 34 34 (.slice (some ⟨W.heap.size+1,0,none⟩) n c)) ((W.alloc o).alloc (.cells C 5))=Result.ok (.slice (some ⟨W.heap.size+1,0,none⟩) n c) ((W.alloc o).alloc (.cells C 5 (C.size,C.size+1))):=fun W o C n c=>by
  have h:=kc (W.alloc o) C n c;rw [World.size_alloc] at h;exact h
 go_wp2_with fail
 have s1:=World.size_alloc w2 (.cells #[.int .u8 97] 5 (1,2));have s2:=World.size_alloc (w2.alloc (.cells #[.int .u8 97] 5 (1,2))) (.cells #[.int .u8 97] 5 (1,2));have hb1:=heap_alloc_new w2 (.cells #[.int .u8 97] 5 (1,2));have hb2:=heap_alloc_new (w2.alloc (.cells #[.int .u8 97] 5 (1,2))) (.cells #[.int .u8 97] 5 (1,2));have hB3:=anz (anz (anz (Zw w2.heap.size w2) (.cells #[.int .u8 97] 5 (1,2))) (.cells #[.int .u8 97] 5 (1,2))) (.cells #[.slice (some ⟨w2.heap.size,0,none⟩) 1 1, .slice (some ⟨w2.heap.size+1,0,none⟩) 1 1] 34);have hb3:=heap_alloc_new ((w2.alloc (.cells #[.int .u8 97] 5 (1,2))).alloc (.cells #[.int .u8 97] 5 (1,2))) (.cells #[.slice (some ⟨w2.heap.size,0,none⟩) 1 1, .slice (some ⟨w2.heap.size+1,0,none⟩) 1 1] 34);rw [s1] at hb2 s2;have hc1:=aBz (aBz hb1 (anz (Zw _ _) (.cells #[.int .u8 97] 5 (1,2)))) (anz (Zw _ _) (.cells #[.slice (some ⟨w2.heap.size,0,none⟩) 1 1, .slice (some ⟨w2.heap.size+1,0,none⟩) 1 1] 34))
 have hc2:=aBz hb2 (anz (Zw _ _) (.cells #[.slice (some ⟨w2.heap.size,0,none⟩) 1 1, .slice (some ⟨w2.heap.size+1,0,none⟩) 1 1] 34));rw [s2] at hb3;have HQ:=Za (HP1.out _ _ (C_twoB hb3 (by decide) (by decide) (C_numsF (xs:= [97]) (fr:=(1,2)) hc1 (by decide)) (C_numsF (xs:= [97]) (fr:=(1,2)) hc2 (by decide))));have HB3:=Za (HB2.out.trans (hB3.mono HB2.out.size));have HC3:=Za (Kd.azz HC2.out hB3);clear hb1 hb2 hb3 hc1 hc2 hB3 HP1 HC2 HB2;refine HQ.out.mono ?_;rintro e w3 ⟨rfl,q3⟩;have HB4:=Za (HB3.out.trans (q3.mono HB3.out.size));have HC4:=Za (Kd.azz HC3.out q3);have HT:=Za (HT2.out w3 _ c HC4.out HCC.out);clear q3 HQ HB3 HC3 HT2
 go_wp2_with fail
 refine HT.out.mono ?_;rintro e w4 ⟨v,rfl,q4,q5⟩;obtain ⟨A4,c4,rfl, -, -⟩:=Kd.djz q4;have HB5:=Za (HB4.out.trans (q5.mono HB4.out.size));clear q4 q5;go_wp2;go_ret;exact ⟨rfl,HB5.out⟩
def bZz.f (k:Nat) (l0:List (List Int)) (a1:Int):Option (Bool):=(cuz.f k).bind fun t1091=>((aHz.f k l0).bind fun t1092=>(if t1092=true then ((cGz.f k l0 a1).bind fun bt1093=>((cyz.f k l0 a1).bind fun bt1095=>(if t1091=true then ((bgz.f k l0 a1).bind fun t1097=>((amz.f k l0 a1).bind fun t1100=>((btz.f k t1097 t1100).bind fun t1103=>(if t1103=true then (if bt1093.1=bt1095.1 then (some (bt1093.2==bt1095.2)) else (some false)) else (some false))))) else (some false)))) else (some t1091)))
theorem bZz.calls (k : Nat) (A0 : Option Addr) (c0 : Nat) (l0 : List (List Int)) (a1 : Int) (r : Bool) (w : World) (hr_ : Aside0 (r = true)) (hr0 : Kd.C (Kd.slice 5 (Kd.int .u8)) w A0 l0.length l0) (hc0 : l0.length <= c0) (h : bZz.f k l0 a1 = some r) :
  Calls Tryz.prog 8 #[.slice A0 l0.length c0, .int .i64 a1] w fun e w'=>e= .returned (.bool r)/\Below w.heap.size w w':=by
 have HR0:=Za hr0;have HC0:=Za hc0;clear hr0 hc0;have HB:=Za (Zw w.heap.size w);have H:=h;clear h;unfold bZz.f at H;obtain ⟨t1091,A3,H⟩:=ob_ H
 (try dsimp only at H)
 obtain ⟨t1092,A4,H⟩:=ob_ H
 (try dsimp only at H)
 by_cases c5:t1092=true
 rotate_left
 ·replace c5:=Zr c5;subst c5;rw [Yb (show¬(false=true) by decide)] at H;obtain rfl:=Zn H;go_enter Tryz.func8,Tryz.ntmps8
  go_wp2_with (first|((with_reducible refine aaz (f:=35) rfl ?_);refine gl_ (some 10) Tryz.func35 #[] ?_;(with_reducible refine (cuz.calls k  t1091 _ A3.out).mono ?_);rintro e w21 ⟨rfl,hb⟩;refine ⟨_,rfl,?_⟩;have n0_:=hs_ HB hb;clear HB;have HB:=n0_;clear n0_;(try clear hb))|((with_reducible refine aaz (f:=18) rfl ?_);refine gl_ (some 12) Tryz.func18 #[.slice A0 l0.length c0] ?_;(with_reducible refine (aHz.calls k _ _ l0 false _ (xd_ (Kd.azz HR0.out HB.out)) (HC0.out) A4.out).mono ?_);rintro e w' ⟨rfl,⟨nd,rfl⟩⟩;refine ⟨_,rfl,?_⟩))
  go_ret;exact ⟨er_,bl_⟩
 subst c5;rw [Ya rfl] at H;obtain ⟨⟨t1093,t1094⟩,A6,H⟩:=ob_ H
 (try dsimp only at H)
 obtain ⟨⟨t1095,t1096⟩,A7,H⟩:=ob_ H
 (try dsimp only at H)
 by_cases c8:t1091=true
 rotate_left
 ·replace c8:=Zr c8;subst c8;rw [Yb (show¬(false=true) by decide)] at H;exact Yf ((Zn H).trans hr_.out) (by simp)
 subst c8;rw [Ya rfl] at H;obtain ⟨t1097,A9,H⟩:=ob_ H
 (try dsimp only at H)
 obtain ⟨t1100,A10,H⟩:=ob_ H
 (try dsimp only at H)
 obtain ⟨t1103,A11,H⟩:=ob_ H
 (try dsimp only at H)
 by_cases c12:t1103=true
 rotate_left
 ·replace c12:=Zr c12;subst c12;rw [Yb (show¬(false=true) by decide)] at H;exact Yf ((Zn H).trans hr_.out) (by simp)
 subst c12;rw [Ya rfl] at H;by_cases c13:t1093=t1095
 ·rw [Ya c13] at H;have c13b0:(t1093==t1095)=true:=Ye c13;have c13b1:(t1093 !=t1095)=false:=Yc c13;clear c13;obtain rfl:=Zn H;go_enter Tryz.func8,Tryz.ntmps8
  go_wp2_with (first|((with_reducible refine aaz (f:=35) rfl ?_);refine gl_ (some 10) Tryz.func35 #[] ?_;(with_reducible refine (cuz.calls k  true _ A3.out).mono ?_);rintro e w14 ⟨rfl,hb⟩;refine ⟨_,rfl,?_⟩;have n0_:=hs_ HB hb;clear HB;have HB:=n0_;clear n0_;(try clear hb))|((with_reducible refine aaz (f:=18) rfl ?_);refine gl_ (some 12) Tryz.func18 #[.slice A0 l0.length c0] ?_;(with_reducible refine (aHz.calls k _ _ l0 true _ (xd_ (Kd.azz HR0.out HB.out)) (HC0.out) A4.out).mono ?_);rintro e w' ⟨rfl,⟨nd,rfl⟩⟩;refine ⟨_,rfl,?_⟩)|((with_reducible refine aaz (f:=36) rfl ?_);refine gl_ (some 18) Tryz.func36 #[.slice A0 l0.length c0, .int .i64 a1] ?_;(with_reducible refine (cGz.calls k _ _ l0 a1 t1093 t1094 _ (xd_ (Kd.azz HR0.out bl_)) (HC0.out) A6.out).mono ?_);rintro e w15 ⟨rfl,hb⟩;refine ⟨_,rfl,?_⟩;have n0_:=hs_ HB hb;clear HB;have HB:=n0_;clear n0_;(try clear hb))|((with_reducible refine aaz (f:=37) rfl ?_);refine gl_ (some 24) Tryz.func37 #[.slice A0 l0.length c0, .int .i64 a1] ?_;(with_reducible refine (cyz.calls k _ _ l0 a1 t1095 t1096 _ (xd_ (Kd.azz HR0.out HB.out)) (HC0.out) A7.out).mono ?_);rintro e w16 ⟨rfl,hb⟩;refine ⟨_,rfl,?_⟩;have n0_:=hs_ HB hb;clear HB;have HB:=n0_;clear n0_;(try clear hb))|(go_at_call 39;(with_reducible refine (bgz.calls k _ _ l0 a1 t1097 _ (xd_ (Kd.azz HR0.out HB.out)) (HC0.out) A9.out).mono ?_);rintro e w17 ⟨v1098,rfl,ho0,hb⟩;have n_:=Zb (Za (Kd.bAz ho0 (adz bl_))) (hs_ HB hb);clear HB;obtain ⟨HO1099,HB⟩:=n_;clear hb ho0)|(go_at_call 40;(with_reducible refine (amz.calls k _ _ l0 a1 t1100 _ (xd_ (Kd.azz HR0.out HB.out)) (HC0.out) A10.out).mono ?_);rintro e w18 ⟨v1101,rfl,ho0,hb⟩;have n_:=Zb (Za (Kd.dxz (xd_ HO1099.out) (Kd.ciz ho0) hb)) (Zb (Za (Kd.bAz (Kd.R_new' ho0 (Kd.R_lt (xd_ HO1099.out))) (adz bl_))) (hs_ HB hb));clear HO1099 HB;obtain ⟨HO1099,HO1102,HB⟩:=n_;clear hb ho0;obtain ⟨Ao19,co19,eo19⟩:=Kd.a3z HO1099.out;subst eo19;obtain ⟨Ao20,co20,eo20⟩:=Kd.a3z HO1102.out;subst eo20)|(go_at_call 38;(with_reducible refine (btz.calls k _ _ t1097 _ _ t1100 true _ (xd_ (Kd.aPz HO1099.out).2.2) ((Kd.aPz HO1099.out).2.1) (xd_ (Kd.aPz HO1102.out).2.2) ((Kd.aPz HO1102.out).2.1) A11.out).mono ?_);rintro e w' ⟨rfl,⟨nd,rfl⟩⟩))
  go_ret;exact ⟨er_,bl_⟩
 ·rw [Yb c13] at H;have c13b0:(t1093==t1095)=false:=Zq c13;have c13b1:(t1093 !=t1095)=true:=Yd c13;exact Yf ((Zn H).trans hr_.out) (by simp)
theorem rp1_1: ∀m,m<4->acz.f 3000 8 285 1 ((m+1:Nat):Int)=some (jvM 8 1 (m+1),true):=by decide+kernel
theorem rp1_2: ∀m,m<4->acz.f 3000 8 285 2 ((m+1:Nat):Int)=some (jvM 8 2 (m+1),true):=by decide+kernel
theorem rp1_3: ∀m,m<4->acz.f 3000 8 285 3 ((m+1:Nat):Int)=some (jvM 8 3 (m+1),true):=by decide+kernel
theorem rp1_4: ∀m,m<4->acz.f 3000 8 285 4 ((m+1:Nat):Int)=some (jvM 8 4 (m+1),true):=by decide+kernel
theorem rp1_5: ∀m,m<4->acz.f 3000 8 285 5 ((m+1:Nat):Int)=some (jvM 8 5 (m+1),true):=by decide+kernel
theorem rp1_6: ∀m,m<4->acz.f 3000 8 285 6 ((m+1:Nat):Int)=some (jvM 8 6 (m+1),true):=by decide+kernel
theorem rp1_7: ∀m,m<4->acz.f 3000 8 285 7 ((m+1:Nat):Int)=some (jvM 8 7 (m+1),true):=by decide+kernel
theorem rp1_8: ∀m,m<4->acz.f 3000 8 285 8 ((m+1:Nat):Int)=some (jvM 8 8 (m+1),true):=by decide+kernel
theorem rpar_1 (K M:Nat) (h1:1<=K) (h2:K<=8) (h3:1<=M) (h4:M<=4):acz.f 3000 8 285 (K:Int) (M:Int)=some (jvM 8 K M,true):=by
 obtain ⟨m,rfl⟩: ∃m,M=m+1:=⟨M - 1,by omega⟩;have hk:K=1\/K=2\/K=3\/K=4\/K=5\/K=6\/K=7\/K=8:=by omega
 rcases hk with rfl|rfl|rfl|rfl|rfl|rfl|rfl|rfl
 ·exact rp1_1 m (by omega)
 ·exact rp1_2 m (by omega)
 ·exact rp1_3 m (by omega)
 ·exact rp1_4 m (by omega)
 ·exact rp1_5 m (by omega)
 ·exact rp1_6 m (by omega)
 ·exact rp1_7 m (by omega)
 ·exact rp1_8 m (by omega)
theorem i16_1:ginv 16 1=1:=cKz (.inr rfl) (a:=1) (v:=1) (by decide) (by decide) (by decide) (by decide+kernel)
theorem i16_2:ginv 16 2=34821:=cKz (.inr rfl) (a:=2) (v:=34821) (by decide) (by decide) (by decide) (by decide+kernel)
theorem i16_3:ginv 16 3=61446:=cKz (.inr rfl) (a:=3) (v:=61446) (by decide) (by decide) (by decide) (by decide+kernel)
theorem i16_4:ginv 16 4=52231:=cKz (.inr rfl) (a:=4) (v:=52231) (by decide) (by decide) (by decide) (by decide+kernel)
theorem i16_5:ginv 16 5=20482:=cKz (.inr rfl) (a:=5) (v:=20482) (by decide) (by decide) (by decide) (by decide+kernel)
theorem i16_6:ginv 16 6=30723:=cKz (.inr rfl) (a:=6) (v:=30723) (by decide) (by decide) (by decide) (by decide+kernel)
theorem i16_7:ginv 16 7=27502:=cKz (.inr rfl) (a:=7) (v:=27502) (by decide) (by decide) (by decide) (by decide+kernel)
theorem i16_8:ginv 16 8=60934:=cKz (.inr rfl) (a:=8) (v:=60934) (by decide) (by decide) (by decide) (by decide+kernel)
theorem i16_9:ginv 16 9=9946:=cKz (.inr rfl) (a:=9) (v:=9946) (by decide) (by decide) (by decide) (by decide+kernel)
theorem i16_10:ginv 16 10=10241:=cKz (.inr rfl) (a:=10) (v:=10241) (by decide) (by decide) (by decide) (by decide+kernel)
theorem i16_11:ginv 16 11=60305:=cKz (.inr rfl) (a:=11) (v:=60305) (by decide) (by decide) (by decide) (by decide+kernel)
def gtab:Int->Int:=fun x=>if x=1 then 1 else if x=2 then 34821 else if x=3 then 61446 else if x=4 then 52231 else if x=5 then 20482 else if x=6 then 30723 else if x=7 then 27502 else if x=8 then 60934 else if x=9 then 9946 else if x=10 then 10241 else if x=11 then 60305 else 0
theorem gtab_inv (x:Int) (h0:1<=x) (h1:x<12):ginv 16 x=gtab x:=by
 have h:x=1\/x=2\/x=3\/x=4\/x=5\/x=6\/x=7\/x=8\/x=9\/x=10\/x=11:=by omega
 rcases h with rfl|rfl|rfl|rfl|rfl|rfl|rfl|rfl|rfl|rfl|rfl
 ·exact i16_1
 ·exact i16_2
 ·exact i16_3
 ·exact i16_4
 ·exact i16_5
 ·exact i16_6
 ·exact i16_7
 ·exact i16_8
 ·exact i16_9
 ·exact i16_10
 ·exact i16_11
theorem xor_small: ∀m:Nat,m<5-> ∀a:Nat,a<m-> ∀b:Nat,b<8->1<=Go.bits .xor .i64 ((0+a:Nat):Int) ((m+b:Nat):Int)/\Go.bits .xor .i64 ((0+a:Nat):Int) ((m+b:Nat):Int)<12:=by decide+kernel
def tabM (k m:Nat):List (List Int):=(runL 0 m).map fun a=>(runL m k).map fun b=>gtab (Go.bits .xor .i64 a b)
theorem par2_tab (k m:Nat) (hk:k<9) (hm:m<5):parM 2 k m=tabM k m:=by
 show cauM 16 (runL 0 m) (runL m k)=tabM k m;unfold cauM tabM runL;refine List.map_congr_left (fun a ha=>List.map_congr_left (fun b hb=> ?_));obtain ⟨i,hi,rfl⟩:=List.mem_map.1 ha;obtain ⟨j,hj,rfl⟩:=List.mem_map.1 hb;have:=xor_small m hm i (by simpa using hi) j (by have:=List.mem_range.1 hj;omega);exact gtab_inv _ this.1 this.2
theorem rp2_1: ∀m,m<4->a9z.f 3000 16 69643 1 ((m+1:Nat):Int)=some (tabM 1 (m+1),true):=by decide+kernel
theorem rp2_2: ∀m,m<4->a9z.f 3000 16 69643 2 ((m+1:Nat):Int)=some (tabM 2 (m+1),true):=by decide+kernel
theorem rp2_3: ∀m,m<4->a9z.f 3000 16 69643 3 ((m+1:Nat):Int)=some (tabM 3 (m+1),true):=by decide+kernel
theorem rp2_4: ∀m,m<4->a9z.f 3000 16 69643 4 ((m+1:Nat):Int)=some (tabM 4 (m+1),true):=by decide+kernel
theorem rp2_5: ∀m,m<4->a9z.f 3000 16 69643 5 ((m+1:Nat):Int)=some (tabM 5 (m+1),true):=by decide+kernel
theorem rp2_6: ∀m,m<4->a9z.f 3000 16 69643 6 ((m+1:Nat):Int)=some (tabM 6 (m+1),true):=by decide+kernel
theorem rp2_7: ∀m,m<4->a9z.f 3000 16 69643 7 ((m+1:Nat):Int)=some (tabM 7 (m+1),true):=by decide+kernel
theorem rp2_8: ∀m,m<4->a9z.f 3000 16 69643 8 ((m+1:Nat):Int)=some (tabM 8 (m+1),true):=by decide+kernel
theorem rpar_2 (K M:Nat) (h1:1<=K) (h2:K<=8) (h3:1<=M) (h4:M<=4):a9z.f 3000 16 69643 (K:Int) (M:Int)=some (tabM K M,true):=by
 obtain ⟨m,rfl⟩: ∃m,M=m+1:=⟨M - 1,by omega⟩;have hk:K=1\/K=2\/K=3\/K=4\/K=5\/K=6\/K=7\/K=8:=by omega
 rcases hk with rfl|rfl|rfl|rfl|rfl|rfl|rfl|rfl
 ·exact rp2_1 m (by omega)
 ·exact rp2_2 m (by omega)
 ·exact rp2_3 m (by omega)
 ·exact rp2_4 m (by omega)
 ·exact rp2_5 m (by omega)
 ·exact rp2_6 m (by omega)
 ·exact rp2_7 m (by omega)
 ·exact rp2_8 m (by omega)
theorem rp3_1: ∀m,m<3->arz.f 3000 8 285 1 ((m+1:Nat):Int)=some (isalM 8 (m+1) 1,true):=by decide+kernel
theorem rp3_2: ∀m,m<3->arz.f 3000 8 285 2 ((m+1:Nat):Int)=some (isalM 8 (m+1) 2,true):=by decide+kernel
theorem rp3_3: ∀m,m<3->arz.f 3000 8 285 3 ((m+1:Nat):Int)=some (isalM 8 (m+1) 3,true):=by decide+kernel
theorem rp3_4: ∀m,m<3->arz.f 3000 8 285 4 ((m+1:Nat):Int)=some (isalM 8 (m+1) 4,true):=by decide+kernel
theorem rp3_5: ∀m,m<3->arz.f 3000 8 285 5 ((m+1:Nat):Int)=some (isalM 8 (m+1) 5,true):=by decide+kernel
theorem rp3_6: ∀m,m<3->arz.f 3000 8 285 6 ((m+1:Nat):Int)=some (isalM 8 (m+1) 6,true):=by decide+kernel
theorem rp3_7: ∀m,m<3->arz.f 3000 8 285 7 ((m+1:Nat):Int)=some (isalM 8 (m+1) 7,true):=by decide+kernel
theorem rp3_8: ∀m,m<3->arz.f 3000 8 285 8 ((m+1:Nat):Int)=some (isalM 8 (m+1) 8,true):=by decide+kernel
theorem rpar_3 (K M:Nat) (h1:1<=K) (h2:K<=8) (h3:1<=M) (h4:M<=3):arz.f 3000 8 285 (K:Int) (M:Int)=some (isalM 8 M K,true):=by
 obtain ⟨m,rfl⟩: ∃m,M=m+1:=⟨M - 1,by omega⟩;have hk:K=1\/K=2\/K=3\/K=4\/K=5\/K=6\/K=7\/K=8:=by omega
 rcases hk with rfl|rfl|rfl|rfl|rfl|rfl|rfl|rfl
 ·exact rp3_1 m (by omega)
 ·exact rp3_2 m (by omega)
 ·exact rp3_3 m (by omega)
 ·exact rp3_4 m (by omega)
 ·exact rp3_5 m (by omega)
 ·exact rp3_6 m (by omega)
 ·exact rp3_7 m (by omega)
 ·exact rp3_8 m (by omega)
theorem rp4_1: ∀m,m<4->baz.f 3000 8 285 1 ((m+1:Nat):Int)=some (cauM 8 (runL 1 (m+1)) (runL 0 1),true):=by decide+kernel
theorem rp4_2: ∀m,m<4->baz.f 3000 8 285 2 ((m+1:Nat):Int)=some (cauM 8 (runL 2 (m+1)) (runL 0 2),true):=by decide+kernel
theorem rp4_3: ∀m,m<4->baz.f 3000 8 285 3 ((m+1:Nat):Int)=some (cauM 8 (runL 3 (m+1)) (runL 0 3),true):=by decide+kernel
theorem rp4_4: ∀m,m<4->baz.f 3000 8 285 4 ((m+1:Nat):Int)=some (cauM 8 (runL 4 (m+1)) (runL 0 4),true):=by decide+kernel
theorem rp4_5: ∀m,m<4->baz.f 3000 8 285 5 ((m+1:Nat):Int)=some (cauM 8 (runL 5 (m+1)) (runL 0 5),true):=by decide+kernel
theorem rp4_6: ∀m,m<4->baz.f 3000 8 285 6 ((m+1:Nat):Int)=some (cauM 8 (runL 6 (m+1)) (runL 0 6),true):=by decide+kernel
theorem rp4_7: ∀m,m<4->baz.f 3000 8 285 7 ((m+1:Nat):Int)=some (cauM 8 (runL 7 (m+1)) (runL 0 7),true):=by decide+kernel
theorem rp4_8: ∀m,m<4->baz.f 3000 8 285 8 ((m+1:Nat):Int)=some (cauM 8 (runL 8 (m+1)) (runL 0 8),true):=by decide+kernel
theorem rpar_4 (K M:Nat) (h1:1<=K) (h2:K<=8) (h3:1<=M) (h4:M<=4):baz.f 3000 8 285 (K:Int) (M:Int)=some (cauM 8 (runL K M) (runL 0 K),true):=by
 obtain ⟨m,rfl⟩: ∃m,M=m+1:=⟨M - 1,by omega⟩;have hk:K=1\/K=2\/K=3\/K=4\/K=5\/K=6\/K=7\/K=8:=by omega
 rcases hk with rfl|rfl|rfl|rfl|rfl|rfl|rfl|rfl
 ·exact rp4_1 m (by omega)
 ·exact rp4_2 m (by omega)
 ·exact rp4_3 m (by omega)
 ·exact rp4_4 m (by omega)
 ·exact rp4_5 m (by omega)
 ·exact rp4_6 m (by omega)
 ·exact rp4_7 m (by omega)
 ·exact rp4_8 m (by omega)
theorem rp5_1: ∀m,m<4->a2z.f 3000 8 285 1 ((m+1:Nat):Int)=some (sysM 8 1 (m+1),true):=by decide+kernel
theorem rp5_2: ∀m,m<4->a2z.f 3000 8 285 2 ((m+1:Nat):Int)=some (sysM 8 2 (m+1),true):=by decide+kernel
theorem rp5_3: ∀m,m<4->a2z.f 3000 8 285 3 ((m+1:Nat):Int)=some (sysM 8 3 (m+1),true):=by decide+kernel
theorem rp5_4: ∀m,m<4->a2z.f 3000 8 285 4 ((m+1:Nat):Int)=some (sysM 8 4 (m+1),true):=by decide+kernel
theorem rp5_5: ∀m,m<4->a2z.f 3000 8 285 5 ((m+1:Nat):Int)=some (sysM 8 5 (m+1),true):=by decide+kernel
theorem rp5_6: ∀m,m<4->a2z.f 3000 8 285 6 ((m+1:Nat):Int)=some (sysM 8 6 (m+1),true):=by decide+kernel
theorem rp5_7: ∀m,m<4->a2z.f 3000 8 285 7 ((m+1:Nat):Int)=some (sysM 8 7 (m+1),true):=by decide+kernel
theorem rp5_8: ∀m,m<4->a2z.f 3000 8 285 8 ((m+1:Nat):Int)=some (sysM 8 8 (m+1),true):=by decide+kernel
theorem rpar_5 (K M:Nat) (h1:1<=K) (h2:K<=8) (h3:1<=M) (h4:M<=4):a2z.f 3000 8 285 (K:Int) (M:Int)=some (sysM 8 K M,true):=by
 obtain ⟨m,rfl⟩: ∃m,M=m+1:=⟨M - 1,by omega⟩;have hk:K=1\/K=2\/K=3\/K=4\/K=5\/K=6\/K=7\/K=8:=by omega
 rcases hk with rfl|rfl|rfl|rfl|rfl|rfl|rfl|rfl
 ·exact rp5_1 m (by omega)
 ·exact rp5_2 m (by omega)
 ·exact rp5_3 m (by omega)
 ·exact rp5_4 m (by omega)
 ·exact rp5_5 m (by omega)
 ·exact rp5_6 m (by omega)
 ·exact rp5_7 m (by omega)
 ·exact rp5_8 m (by omega)
end Go.Proofs.Xc
end
