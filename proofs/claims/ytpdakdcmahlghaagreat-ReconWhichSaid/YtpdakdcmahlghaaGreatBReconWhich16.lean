-- Joined texts of this work (wip/tools/bundle.py).
import Derived.Test.YtpdakdcmahlghaaGreatBReconWhich15
set_option maxHeartbeats 4000000
set_option maxRecDepth 100000
set_option linter.unusedVariables false
set_option linter.unusedSimpArgs false
section
namespace Go.Proofs.Xc
open Go.RowKit Go.Proofs.Pw Go.Proofs.Pl Go.Proofs.Pm Tryz
attribute [local go_sem] a7z a8z bgz bhz aVz aWz a9z baz
theorem choose_list {β:Type} {P:Nat->β->Prop} : ∀(n:Nat),(∀i,i<n-> ∃q,P i q)-> ∃bs:List β,bs.length=n/\ ∀i q,bs[i]?=some q->P i q
 |0,_=>⟨[],rfl,fun i q h=>by simp at h⟩
 |n+1,h=>by
  obtain ⟨bs,hl,hb⟩:=choose_list n (fun i hi=>h i (by omega));obtain ⟨q,hq⟩:=h n (by omega);refine ⟨bs++ [q],by simp [hl],fun i q' hi=> ?_⟩;by_cases hlt:i<n
  ·rw [List.getElem?_append_left (by omega)] at hi;exact hb i q' hi
  ·have : i = n := by
    have:=(Zk hi).1;simp at this;omega
   subst this;rw [List.getElem?_append_right (by omega),hl,Nat.sub_self] at hi;obtain rfl:q=q':=by simpa using hi
   exact hq
theorem S_MxO {w:World} {B:Nat} {ok:Nat->Prop} {v:Value} {rows:List (List Int)} (h:Kd.S (dM 3 .i64) 57 w B ok v rows) (hp:0<rows.length) (hr: ∀r,r∈rows->0<r.length):
  ∃o co bs,v= .slice (some ⟨o,0,none⟩) rows.length co/\rows.length<=co/\B<=o/\Mx w o bs rows/\(∀(i b c:Nat),bs[i]?=some (b,c)->B<=b)/\ok o/\(∀(i b c:Nat),bs[i]?=some (b,c)->ok b):=by
 obtain ⟨f,h0,inner,ho,d0⟩:=h;rw [List.length_zipIdx] at ho;have hown:=ho;obtain ⟨hil,hown⟩:=hown;rcases hown with ⟨-,hn⟩|⟨g,cap,cur,hv,hBg,hgb,hnc,hcm,hcs,hct⟩
 ·omega
 have e1:(Kd.tag f (dM 3 .i64)).sz=1:=rfl
 have hin: ∀i,i<rows.length->inner[i]?=cur[i]?:=fun i hi=>by
  rw [<-hct,List.getElem?_take_of_lt (by rw [e1];omega),Array.getElem?_toList]
 have hch: ∀i,i<rows.length-> ∃q:Nat×Nat, ∀row,rows[i]?=some row->cur[i]?=some (.slice (some ⟨q.1,0,none⟩) row.length q.2)/\row.length<=q.2/\B<=q.1/\(f q.1=i/\ok q.1)/\ ∃cs:Array Value,w.heap[q.1]?=some (.cells cs 3 (0,0))/\ ∀(j:Nat) (x:Int),row[j]?=some x->cs[j]?=some (.int .i64 x):=by
  intro i hi;obtain ⟨row,hrow⟩: ∃r,rows[i]?=some r:=⟨_,Zf hi⟩;have hz:rows.zipIdx[i]?=some (row,i):=by rw [List.getElem?_zipIdx,hrow];simp
  obtain ⟨u,hu,hR⟩:=d0.2 i (row,i) hz;have hR':(Kd.int .i64).R 3 w B (fun k=>(ok k/\some k≠v.ownBlock)/\f k=i) u row:=hR;obtain ⟨b,c,rfl,hBb,hbl,cs,hcs'⟩:=Kd.egz hR' (hr row (Zo hrow))
  have c0:inner[i]?=some (.slice (some ⟨b,0,none⟩) row.length c):=by
   have:=congrArg (fun l=>l[0]?) hu
   simpa [e1,List.getElem?_take,List.getElem?_drop] using this
  have f0:f b=i/\ok b:=⟨(hR'.1 b rfl).2,(hR'.1 b rfl).1.1⟩;refine ⟨(b,c),fun row' hrow'=> ?_⟩;obtain rfl:row=row':=by rw [hrow] at hrow';exact Zn hrow'
  refine ⟨by rw [<-hin i hi];exact c0,(Kd.aHz hR').2.1,hBb,f0,cs,hcs',fun j x hx=> ?_⟩;have hj:=(Zk hx).1;have hc:=(Kd.R_cell 0 hR' (j:Int) (by omega) (by omega)).1;rw [abz hcs' _] at hc;have e2:rdOf 0 row (j:Int)=x:=by simp [rdOf,hx,Zk hx|>.2]
  rw [e2] at hc;exact hc
 obtain ⟨bs,hbl,hbs⟩:=choose_list rows.length hch;have hlt: ∀ {i q},bs[i]?=some q-> ∃row,rows[i]?=some row:=fun {i q} hb=>⟨_,Zf (by have:=(Zk hb).1;omega)⟩
 refine ⟨g,cap,bs,hv,hnc,hBg,⟨hbl,⟨cur,hgb,fun i b c row hb hrow=>(hbs i _ hb row hrow).1⟩,fun i b c row hb hrow=> ?_,?_⟩,fun i b c hb=> ?_,h0 g (by rw [hv];rfl),fun i b c hb=> ?_⟩
 ·obtain ⟨-,q2, -, -,q5⟩:=hbs i _ hb row hrow;exact ⟨q2,q5⟩
 ·rw [List.nodup_iff_pairwise_ne,List.pairwise_iff_getElem];intro i j hi hj hij he;rw [List.length_map] at hi hj;have b0:bs[i]?=some bs[i] :=Zf hi;have a0:bs[j]?=some bs[j] :=Zf hj;obtain ⟨r1,g0⟩:=hlt b0;obtain ⟨r2,e0⟩:=hlt a0;have f1:=(hbs i _ b0 r1 g0).2.2.2.1.1;have f2:=(hbs j _ a0 r2 e0).2.2.2.1.1;simp only [List.getElem_map] at he;rw [he] at f1;omega
 ·obtain ⟨row,hrow⟩:=hlt hb;exact (hbs i _ hb row hrow).2.2.1
 ·obtain ⟨row,hrow⟩:=hlt hb;exact (hbs i _ hb row hrow).2.2.2.1.2
theorem S_Mx {w:World} {B:Nat} {ok:Nat->Prop} {v:Value} {rows:List (List Int)} (h:Kd.S (dM 3 .i64) 57 w B ok v rows) (hp:0<rows.length) (hr: ∀r,r∈rows->0<r.length):
  ∃o co bs,v= .slice (some ⟨o,0,none⟩) rows.length co/\rows.length<=co/\B<=o/\Mx w o bs rows/\(∀(i b c:Nat),bs[i]?=some (b,c)->B<=b):=by
 obtain ⟨o,co,bs,h1,h2,h3,h4,h5, -, -⟩:=S_MxO h hp hr;exact ⟨o,co,bs,h1,h2,h3,h4,h5⟩
def identM (n:Nat):List (List Int):=(List.range n).map (fun i=>(List.replicate n 0).set i 1)
theorem identity_f: ∀n:Nat,n<21->1<=n->bWz.f 40 (n:Int)=some (identM n):=by decide+kernel
theorem bwz (n:Nat):(identM n).length=n:=by simp [identM]
theorem eYz {n:Nat} {r:List Int} (h:r∈identM n):r.length=n:=by
 simp only [identM,List.mem_map] at h;obtain ⟨i, -,rfl⟩:=h;simp
theorem ident.calls (n:Nat) (W:World) (h1:1<=n) (h2:n<21):Calls prog 95 #[.int .i64 (n:Int)] W fun e w'=> ∃A c,e= .returned (.slice A (identM n).length c)/\Kd.C (Kd.slice 3 (Kd.int .i64)) w' A (identM n).length (identM n)/\Below W.heap.size W w':=by
 refine (bWz.calls 40 (n:Int) (identM n) W (identity_f n h2 h1)).mono ?_;rintro e w' ⟨v,rfl,hv,hb⟩;obtain ⟨A,c,rfl, -,hc⟩:=Kd.dwz (Kd.S_R hv);exact ⟨A,c,rfl,hc,hb⟩
theorem Mx.C_row {W:World} {o:Nat} {bs:List (Nat×Nat)} {rows:List (List Int)} (h:Mx W o bs rows) {i b c:Nat} {row:List Int} (hb:bs[i]?=some (b,c)) (hr:rows[i]?=some row) (n:Nat) (hl:row.length<=1000):Kd.C (Kd.int .i64) W (some ⟨b,n,none⟩) (row.drop n).length (row.drop n):=by
 obtain ⟨hc,cs,h1,h2⟩:=h.inner _ b c row hb hr;refine ⟨rfl,by simp;omega,fun _=>⟨_,rfl,fun j x hx=>⟨[.int .i64 x],rfl,rfl,fun i' u hu=> ?_⟩⟩⟩
 cases i' with
 |succ i'=>simp at hu
 |zero=>
  obtain rfl:Value.int .i64 x=u:=by simpa using hu
  have e:(⟨b,n,none⟩:Addr).add (j*(Kd.int .i64).sz+0)=⟨b,n+j,none⟩:=by
   show (⟨b,n,none⟩:Addr).add (j*1+0)=_;unfold Addr.add;split<;>simp_all
  rw [e,abz h1 _];rw [List.getElem?_drop] at hx;exact h2 _ x hx
theorem zip_each {a b:List (List Int)} {n m:Nat} (ha: ∀r,r∈a->r.length=n) (hb: ∀r,r∈b->r.length=m): ∀r,r∈List.zipWith (· ++ ·) a b->r.length=n+m:=by
 intro r hr;obtain ⟨i,hi,rfl⟩:=List.getElem_of_mem hr;simp only [List.getElem_zipWith,List.length_append];rw [ha _ (List.getElem_mem _),hb _ (List.getElem_mem _)]
theorem djz (wb:Int) (hw:wb=8\/wb=16) (n:Nat): ∀r,r∈identM n->Good wb n r:=by
 intro r hr;refine ⟨eYz hr,fun x hx=> ?_⟩
 have hz:(1:Int)<fsize wb:=by rcases hw with rfl|rfl<;>decide
 simp only [identM,List.mem_map] at hr;obtain ⟨i, -,rfl⟩:=hr;rcases List.mem_or_eq_of_mem_set hx with h|h
 ·have:=List.eq_of_mem_replicate h;omega
 ·omega
theorem eBz {wb:Int} {n m:Nat} {a b:List (List Int)} (ha: ∀r,r∈a->Good wb n r) (hb: ∀r,r∈b->Good wb m r): ∀r,r∈List.zipWith (· ++ ·) a b->Good wb (n+m) r:=by
 intro r hr;obtain ⟨i,hi,rfl⟩:=List.getElem_of_mem hr;rw [List.getElem_zipWith];have h1:=ha _ (List.getElem_mem (by simp at hi;omega:i<a.length));have h2:=hb _ (List.getElem_mem (by simp at hi;omega:i<b.length));exact ⟨by rw [List.length_append,h1.1,h2.1],fun x hx=>(List.mem_append.1 hx).elim (h1.2 x) (h2.2 x)⟩
def invF (wb:Int) (rows:List (List Int)):List (List Int)×Nat:=redF wb rows.length 0 (List.zipWith (· ++ ·) rows (identM rows.length)) 0
theorem invF_good {wb:Int} (hw:wb=8\/wb=16) (rows:List (List Int)) (h: ∀r,r∈rows->Good wb rows.length r):(∀r,r∈(invF wb rows).1->Good wb (rows.length+rows.length) r)/\(invF wb rows).1.length=rows.length:=by
 have h1:=redF_good hw (rows.length+rows.length) rows.length 0 _ 0 (eBz h (djz wb hw rows.length));refine ⟨h1.1,h1.2.trans ?_⟩;rw [List.length_zipWith,bwz,Nat.min_self]
theorem Inverse.calls (g:Nat) (wb:Int) (S:Nat->Prop) (A:Option Addr) (cap:Nat) (rows:List (List Int)) (W:World) (hw:wb=8\/wb=16) (hM:MayOk wb rows rows.length) (hF:Fd W g wb (fpoly wb) S) (hS: ∀k,S k->k<W.heap.size) (hC:Kd.C (dM 3 .i64) W A rows.length rows):
  Calls prog 97 #[.pointer (some ⟨g,0,none⟩), .slice A rows.length cap] W fun e w'=> ∃v,e= .returned (.tuple #[v, .int .i64 (if (invF wb rows).2<rows.length then 2 else 0)])/\(if (invF wb rows).2<rows.length then v= .slice none 0 0 else Kd.S (dM 3 .i64) 57 w' W.heap.size (fun _=>True) v ((invF wb rows).1.map (·.drop rows.length)))/\Fd w' g wb (fpoly wb) S/\BB W w' g:=by
 have r0:=Za (square.ok g S wb (fpoly wb) A cap rows W hw hM hF hC);have HW:=Za hw;have HM:=Za hM;have HF:=Za hF;have HS:=Za hS;have HC:=Za hC;have R0:=hM.n1;have a1:=hM.n2;obtain ⟨⟨res,d⟩,hR⟩: ∃R,invF wb rows=R:=⟨_,rfl⟩;rw [hR];have HR:=Za hR;obtain ⟨n,hn⟩: ∃n,rows.length=n:=⟨_,rfl⟩;have d0:=Za hn;rw [hn] at r0 R0 a1|-;clear hw hM hF hS hC hR hn;go_enter func97,ntmps97
 go_wp2_with (first|(go_at_call 142;refine r0.o.mono ?_;rintro e w1 ⟨rfl,hB⟩;have N0:=Za hB;clear hB))
 clear r0;have h0:=Za (ident.calls n w1 R0 (by omega))
 go_wp2_with fail
 refine h0.o.mono ?_;rw [bwz];rintro e w2 ⟨IA,ic,rfl,j0,z0⟩;have j0:Kd.C (Kd.slice 3 (Kd.int .i64)) w2 IA (identM n).length (identM n):=by rw [bwz];exact j0
 have e0:=Za (N0.o.trans (z0.mono N0.o.size));have hbs:=beside.calls A IA cap ic 0 rows (identM n) w2 (Kd.aMz HC.o e0.o) j0 (by rw [d0.o];omega) (by rw [d0.o,bwz];omega) (fun x hx=>by have:=(HM.o.each x hx).1;have:=d0.o;omega) (fun x hx=>by rw [eYz hx];omega);rw [d0.o,bwz] at hbs;have A0:=Za hbs;clear hbs j0 z0;have hwl:(List.zipWith (· ++ ·) rows (identM n)).length=n:=by rw [List.length_zipWith,d0.o,bwz,Nat.min_self]
 have f0: ∀r,r∈List.zipWith (· ++ ·) rows (identM n)->r.length=n+n:=zip_each (fun r hr=>by rw [(HM.o.each r hr).1,d0.o]) (fun r hr=>eYz hr);have hrd:redF wb n 0 (List.zipWith (· ++ ·) rows (identM n)) 0=(res,d):=by rw [<-HR.o];unfold invF;rw [d0.o]
 have a0:=A0.o;obtain ⟨wide,hwide⟩: ∃wide,List.zipWith (· ++ ·) rows (identM n)=wide:=⟨_,rfl⟩;have hwg:=eBz (wb:=wb) (fun r hr=>(⟨(HM.o.each r hr).1,(HM.o.each r hr).2⟩:Good wb rows.length r)) (djz wb HW.o n);rw [d0.o] at hwg;rw [hwide] at hwl f0 hrd a0 hwg;have b1:=Za hwg;clear hwg;have P0:=Za hrd;have a0:=Za a0;have J0:=Za hwl;have K0:=Za f0;clear A0 hwide hrd hwl f0
 go_wp2_with fail
 have hwl:=J0.o;have f0:=K0.o;refine a0.o.mono ?_;rintro e w3 ⟨v,rfl,G0,C0⟩;obtain ⟨o,co,bs,rfl,hco,M0,k0,hbs⟩:=S_Mx G0 (by omega) (fun r hr=>by have:=f0 r hr;omega);rw [hwl] at hco|-;have c0:=Za (e0.o.trans (C0.mono e0.o.size));have y0:=Za (show Fd w3 g wb (fpoly wb) (fun k=>S k\/(w2.heap.size<=k/\k<w3.heap.size)) from ((HF.o.more).below c0.o).thin (fun k hk hs=>hs.elim .inl (fun h=> .inr (Zt e0.o.size h.1))));have hrc:=reduce.calls g o wb (fun k=>w2.heap.size<=k/\k<w3.heap.size) (fun k=>S k\/(w2.heap.size<=k/\k<w3.heap.size)) n co (n+n) n bs wide w3 HW.o y0.o (fun k hk=> .inr hk) (fun k hk=>hk.elim (fun h=>Zp (HS.o k h) c0.o.size) (fun h=>h.2)) k0 (fun i b c hb=>⟨hbs i b c hb,k0.lt_i hb⟩) ⟨M0,k0.lt_o⟩ hwl (by omega) hco f0 (by omega) (by omega);have b0:=redF_good HW.o (n+n) n 0 wide 0 b1.o;rw [P0.o] at hrc b0;rw [hwl] at b0;have p0:=Za b0
 have v0:=Za hrc;clear hrc b0 G0 k0 hbs M0 f0 C0 hwl
 go_wp2_with fail
 refine v0.o.mono ?_;rintro e w4 ⟨rfl,⟨bs',D0⟩,B0,g0⟩;have I0:=Za (B0.thin (S':=S) (fun k _ hk=> .inl hk));have l0:=Za (show BB W w4 g from ⟨g0.os.trans c0.o.os,g0.tape.trans c0.o.tape,g0.output.trans c0.o.output,Zt c0.o.size g0.size,fun i hi hg=>(g0.block i (Zp hi c0.o.size) hg (fun h=>by have:=e0.o.size;omega)).trans (c0.o.block i hi)⟩);have H0:=Za (show Mx w4 o bs' res from D0);clear D0 B0 g0;clear HR P0 v0 a0 h0 y0 J0 K0 j0;have t0:=Za (show res.length=n from p0.o.2);have V0:=Za (show∀r,r∈res->r.length=n+n from fun r hr=>(p0.o.1 r hr).1);clear p0;by_cases hdn:d<n
 ·have hdn':(d:Int)<(n:Int):=by omega
  go_wp2;go_ret2;exact ⟨_,rfl,rfl,I0.o,l0.o⟩
 ·have hdn': ¬(d:Int)<(n:Int):=by omega
  go_wp2
  go_loopw [8,29] (fun v i wr=> ∃k:Nat,k<=n/\i= .int .i64 (k:Int)/\Aside0 (Kd.S (dM 3 .i64) 57 wr w4.heap.size (fun _=>True) v ((res.take k).map (·.drop n)))/\Aside0 (Below w4.heap.size w4 wr)) (fun _ i _=>n - (intOf i).toNat)
  case atStart=>exact ⟨0,Nat.zero_le _,rfl,⟨Kd.S_nil _ _ _ _ _⟩,⟨Zw _ _⟩⟩
  obtain ⟨k,hk,rfl,HO,HB⟩:=hrel;by_cases hlt:k<n
  ·obtain ⟨x,hx⟩: ∃x,res[k]?=some x:=⟨_,Zf (by have:=t0.o;omega)⟩;obtain ⟨⟨b,c⟩,hb⟩: ∃x,bs'[k]?=some x:=⟨_,Zf (by have:=t0.o;have:=H0.o.len;omega)⟩;have hxl:=V0.o x (Zo hx);have n0:=H0.o.below HB.o;have hcell:=n0.cCz hb hx;have hcc:=(n0.inner _ b c x hb hx).1
   have HZ:=Za (show (res.take (k+1)).map (·.drop n)=(res.take k).map (·.drop n)++ [x.drop n] by
    rw [List.take_add_one,hx];simp)
   have hlz:((res.take k).map (·.drop n)).length<=1000:=by simp;omega
   have Z0:=Za hlz;have F0:=n0.C_row hb hx n (by omega);have hcl:=clone_i.calls _ (c - n) (x.drop n) _ F0 (by simp;omega);have e1:(x.drop n).length=n:=by simp;omega
   rw [e1] at hcl;rw [hxl] at hcell hcc;have X0:=Za hcl;have L0:=Za e1;have j1:(n:Int)<=((n+n:Nat):Int):=by omega
   have j2: ¬c=n:=by omega
   have j2': ¬n=c:=by omega
   have j3:n+n - n=n:=by omega
   have j4:(0:Int)<=(n:Int):=by omega
   clear hx hb n0 F0 hcl hlz hxl e1
   go_wp2_with fail
   refine X0.o.mono ?_;rintro e w5 ⟨u,rfl,hu,o0⟩;obtain ⟨ua,uc,rfl⟩:=Kd.aQz hu;rw [L0.o];have i0:=S_fresh HO.o o0 HB.o.size hu;rw [L0.o] at i0;have S0:=Za i0.1;have T0:=Za i0.2.1;have Y0:=Za i0.2.2;have q0:=Za (HB.o.trans (o0.mono HB.o.size));have c1:=Za (BB.trans l0.o (BB.of_below (q0.o) g));clear hu o0 i0
   go_wp2_with ((with_reducible refine amz (b:= .append) (xs:= #[.tmp 33, .tmp 38]) rfl ?_);go_must (at_builtin;refine Kd.bLz (dM 3 .i64) (w0:=w4) w4.heap.size rfl (.tmp 33) (.tmp 38) 69 57 (.slice none 0 0) 24 rfl underlying69 kr_ rfl (by decide) (by decide) _ _ (x.drop n) [.slice ua n uc] (fun _=>True) (fun k'=>wr.heap.size<=k') rfl rfl T0.o Y0.o (fun _ _=>trivial) S0.o q0.o q0.o.size (by have:=Z0.o;omega) ?_);intro v2 w6 O0 E0 W0 u0;have U0:=Za O0;have e0:=Za E0;clear O0 E0 W0 u0)
   go_roundw
   case rel=>exact ⟨k+1,by omega,by go_num,⟨by rw [HZ.o];exact U0.o⟩,e0⟩
   case measure=>simp [intOf];omega
  ·obtain rfl:k=n:=by omega
   have Q0:=Za HO.o;rw [List.take_of_length_le (by have:=t0.o;omega)] at Q0;go_wp2;go_ret2;exact ⟨_,rfl,Kd.cMz Q0.o l0.o.size,I0.o.below HB.o,l0.o.trans (BB.of_below HB.o g)⟩
def cutRow (wb c:Int) (i j:Nat) (x:List Int):List Int:=x.set j (Go.bits .xor .i64 (x.getD j 0) (gmul wb (x.getD i 0) c))
def cutTo (wb c:Int) (i j:Nat) (rows:List (List Int)) (k:Nat):List (List Int):=(rows.take k).map (cutRow wb c i j)++rows.drop k
def cutCol (wb c:Int) (i j:Nat) (rows:List (List Int)):List (List Int):=if j=i then rows else rows.map (cutRow wb c i j)
def cutF (wb:Int) (i:Nat):List Int->Nat->List (List Int)->List (List Int)
 | [],_,rows=>rows
 |c::cs,j,rows=>cutF wb i cs (j+1) (cutCol wb c i j rows)
theorem cutTo_zero (wb c:Int) (i j:Nat) (rows:List (List Int)):cutTo wb c i j rows 0=rows:=by simp [cutTo]
theorem cutTo_full (wb c:Int) (i j:Nat) (rows:List (List Int)):cutTo wb c i j rows rows.length=rows.map (cutRow wb c i j):=by simp [cutTo]
theorem cutTo_at (wb c:Int) (i j:Nat) (rows:List (List Int)) (k:Nat) (x:List Int) (h:rows[k]?=some x):(cutTo wb c i j rows k)[k]?=some x:=by
 have hi:=(Zk h).1;unfold cutTo;rw [List.getElem?_append_right (by simp;omega)];simp only [List.length_map,List.length_take,List.getElem?_drop];rw [show k+(k - min k rows.length)=k by omega];exact h
theorem cutTo_step (wb c:Int) (i j:Nat) (rows:List (List Int)) (k:Nat) (x:List Int) (h:rows[k]?=some x):(cutTo wb c i j rows k).set k (cutRow wb c i j x)=cutTo wb c i j rows (k+1):=by
 have hi:=(Zk h).1;obtain ⟨_,e⟩:=Zk h;unfold cutTo;rw [List.set_append_right _ _ (by simp;omega),List.length_map,List.length_take,show k - min k rows.length=0 by omega,List.drop_eq_getElem_cons hi,Zh,List.take_add_one,h,List.map_append,List.append_assoc];rfl
theorem cutRow_length (wb c:Int) (i j:Nat) (x:List Int):(cutRow wb c i j x).length=x.length:=by simp [cutRow]
theorem eZz {wb c:Int} {i j:Nat} {rows:List (List Int)} {L:Nat} (h: ∀r,r∈rows->r.length=L):(∀r,r∈cutCol wb c i j rows->r.length=L)/\(cutCol wb c i j rows).length=rows.length:=by
 unfold cutCol;split
 ·exact ⟨h,rfl⟩
 ·refine ⟨fun r hr=> ?_,by simp⟩;obtain ⟨q,hq,rfl⟩:=List.mem_map.1 hr;rw [cutRow_length];exact h q hq
theorem jclear.calls (g o : Nat) (wb : Int) (S0 S : Nat -> Prop) (n co L i : Nat) (bs : List (Nat × Nat)) (rows : List (List Int)) (row : List Int) (W : World) (hw : wb = 8 \/ wb = 16) (hF : Fd W g wb (fpoly wb) S) (hx : ∀ k, S0 k -> S k) (hS : ∀ k, S k -> k < W.heap.size)
  (hM:Mx W o bs rows) (hSb: ∀(i b c:Nat),bs[i]?=some (b,c)->S0 b) (hn:rows.length=n) (hco:n<=co) (hnn:n<=100) (hL: ∀r,r∈rows->r.length=L) (l1:L<=100) (g1:1<=L) (hi:i<n) (f1:i<L) (hrow:rows[i]?=some row):
  Calls prog 158 #[.agg #[.pointer (some ⟨g,0,none⟩), .slice (some ⟨o,0,none⟩) n co], .int .i64 (i:Int)] W fun e w'=>e= .returned (.tuple #[])/\Mx w' o bs (cutF wb i row 0 rows)/\Fd w' g wb (fpoly wb) S/\BS W w' g S0:=by
 have HW:=Za hw;obtain ⟨R0,y0⟩: ∃R0,cutF wb i row 0 rows=R0:=⟨_,rfl⟩;have L0:=Za (show cutF wb i (row.drop 0) 0 rows=R0 from y0);rw [y0];clear y0;have HF:=Za (hF.more.alloc (.cells #[.pointer (some ⟨g,0,none⟩), .slice (some ⟨o,0,none⟩) n co] 146));have HX:=Za hx;have HS:=Za hS;have HM:=Za (hM.alloc (.cells #[.pointer (some ⟨g,0,none⟩), .slice (some ⟨o,0,none⟩) n co] 146));have z0:=Za hSb;have HL:=Za hL;have HN:=Za hn;have hbx:(W.alloc (.cells #[.pointer (some ⟨g,0,none⟩), .slice (some ⟨o,0,none⟩) n co] 146)).heap[W.heap.size]?=some (.cells #[.pointer (some ⟨g,0,none⟩), .slice (some ⟨o,0,none⟩) n co] 146 (0,0)):=heap_alloc_new _ _;have HB:=Za (show BS W (W.alloc (.cells #[.pointer (some ⟨g,0,none⟩), .slice (some ⟨o,0,none⟩) n co] 146)) g S0 from BS.alloc (BS.refl _ _ _) _);have e1:=Za hF.lt;have a1:=Za hrow;have b1:=Za hM.lt_o;have h0:=Za (hL row (Zo hrow));have i1:(0:Int)<=(i:Int):=by omega
 have i2:(i:Int)<(n:Int):=by omega
 obtain ⟨⟨bi,ci⟩,hbi⟩: ∃q,bs[i]?=some q:=⟨_,Zf (by have:=hM.len;omega)⟩;have n0:((W.alloc (.cells #[.pointer (some ⟨g,0,none⟩), .slice (some ⟨o,0,none⟩) n co] 146)).alloc (.cells #[] 3)).cell? ⟨W.heap.size,1,none⟩=some (.slice (some ⟨o,0,none⟩) n co):=(abz (aPz hbx _) 1).trans rfl;have p0:=HM.o.alloc (.cells #[] 3);have k0:((W.alloc (.cells #[.pointer (some ⟨g,0,none⟩), .slice (some ⟨o,0,none⟩) n co] 146)).alloc (.cells #[] 3)).cell? ⟨o,i,none⟩=some (.slice (some ⟨bi,0,none⟩) L ci):=by rw [p0.cCz hbi hrow,hL row (Zo hrow)]
 have hne:((W.alloc (.cells #[.pointer (some ⟨g,0,none⟩), .slice (some ⟨o,0,none⟩) n co] 146)).alloc (.cells #[] 3)).heap[W.heap.size+1]?=some (.cells #[] 3 (0,0)):=bBz _ _ _ (by simp);have H0:=Za (show ((W.alloc (.cells #[.pointer (some ⟨g,0,none⟩), .slice (some ⟨o,0,none⟩) n co] 146)).alloc (.cells #[] 3)).ownsRow (W.heap.size+1) 3 1 (.slice (some ⟨W.heap.size+1,0,none⟩) 0 0) 0 [] from ⟨rfl, .inr ⟨_,0,_,rfl,Zv _,hne,Zv _,by unfold maxLen;omega,rfl,rfl⟩⟩);have hrc:=reads_C (Mx.C_row p0 hbi hrow 0 (by rw [h0.o];omega));rw [List.drop_zero,h0.o] at hrc;have C0:=Za hrc;have a0:=Za (aPz hbx (.cells #[] 3));have o0:=Za p0;have v0:=Za (HF.o.alloc (.cells #[] 3));have f0:=Za (HB.o.alloc (.cells #[] 3));have g0:=Za (show ((W.alloc (.cells #[.pointer (some ⟨g,0,none⟩), .slice (some ⟨o,0,none⟩) n co] 146)).alloc (.cells #[] 3)).heap.size=W.heap.size+1+1 by simp);clear hw hF hx hS hM hSb hL hn hrow hbx hbi p0 hne hrc HM HF HB
 go_enter func158,ntmps158
 go_wp2_with ((with_reducible refine amz (b:= .append) (xs:= #[.tmp 9, .tmp 14]) rfl ?_);go_must (at_builtin;refine daz (w0:=(W.alloc (.cells #[.pointer (some ⟨g,0,none⟩), .slice (some ⟨o,0,none⟩) n co] 146)).alloc (.cells #[] 3)) (W.heap.size+1) rfl (.tmp 9) (.tmp 14) 57 3 .i64 8 rfl underlying57 kr_ (by decide) _ [] row (some ⟨bi,0,none⟩) L ci rfl rfl H0.o C0.o (Zw _ _) (by have:=g0.o;omega) (by simp;omega) ?_);intro v2 w2 q0 E0 I0 A0;rw [List.nil_append] at q0;obtain ⟨ru,rc,rfl⟩:=Kd.aQz (dCz q0);rw [h0.o];have u0:=Za (dCz q0);have r0:=Za E0;have c0:=Za (show ((W.alloc (.cells #[.pointer (some ⟨g,0,none⟩), .slice (some ⟨o,0,none⟩) n co] 146)).alloc (.cells #[] 3)).grownBy w2 (some (W.heap.size+1)) from I0);clear q0 E0 I0 A0)
 rw [h0.o] at u0;obtain ⟨w1,D0⟩: ∃w1,(W.alloc (.cells #[.pointer (some ⟨g,0,none⟩), .slice (some ⟨o,0,none⟩) n co] 146)).alloc (.cells #[] 3)=w1:=⟨_,rfl⟩;rw [D0] at a0 o0 v0 f0 g0 r0 c0 n0 k0;obtain ⟨fb,B0⟩: ∃fb,fb=W.heap.size:=⟨_,rfl⟩;have G0:=Za B0;have hkeep: ∀q,q<W.heap.size+1->w2.heap[q]?=w1.heap[q]?:=fun q hq=>c0.o.block q (by have:=g0.o;omega) (fun e=>by cases e;omega)
 have b0:=Za ((hkeep W.heap.size (by omega)).trans a0.o);have hlo:=o0.o.lt_o;have e0:=Za (show Mx w2 o bs rows from o0.o.move (hkeep o (by have:=b1.o;omega)) (fun q b c hq=>hkeep b (by have:=HS.o b (HX.o b (z0.o q b c hq));omega)));have t0:=Za (show Fd w2 g wb (fpoly wb) S from (Fd.grow v0.o (fun q e=>by cases e;exact .inr (by omega)) c0.o).thin (fun q _ hs=> .inl (.inl hs)));have F0:=Za (show BS W w2 g S0 from ⟨c0.o.os.trans f0.o.os,c0.o.tape.trans f0.o.tape,c0.o.output.trans f0.o.output,Zt f0.o.size c0.o.size,fun q hq hg hs=>(hkeep q (by omega)).trans (f0.o.block q hq hg hs)⟩);rw [<-B0] at b0 u0|-
 generalize (W.heap.size+1+1)=junk at *
 clear hkeep hlo B0 n0 k0 D0 o0 v0 f0 r0 c0 a0 H0 C0
 go_loopw [18] (fun jv wr=> ∃(j:Nat) (rows':List (List Int)),j<=L/\jv= .int .i64 (j:Int)/\Aside0 (cutF wb i (row.drop j) j rows'=R0)/\Aside0 (rows'.length=n/\ ∀r,r∈rows'->r.length=L)/\Aside0 (Mx wr o bs rows')/\Aside0 (Fd wr g wb (fpoly wb) S)/\Aside0 (BS W wr g S0)/\Aside0 (wr.heap[fb]?=some (.cells #[.pointer (some ⟨g,0,none⟩), .slice (some ⟨o,0,none⟩) n co] 146 (0,0)))/\Aside0 ((Kd.int .i64).R 3 wr (fb+1) (fun _=>True) (.slice ru L rc) row)) (fun jv _=>L - (intOf jv).toNat)
 case atStart=>exact ⟨0,rows,Nat.zero_le _,rfl,L0,⟨HN.o,HL.o⟩,e0,t0,F0,b0,u0⟩
 clear L0 e0 t0 F0 b0 u0;obtain ⟨wq,rfl⟩: ∃wq,wq=wr:=⟨_,rfl⟩;obtain ⟨j,rows',hj,rfl,HR,i0,HM,HF,HB,a0,HO⟩:=hrel;by_cases hlt:j<L
 ·obtain ⟨c,hc⟩: ∃c,row[j]?=some c:=⟨_,Zf (by have:=h0.o;omega)⟩;obtain ⟨J0,rfl,hcj⟩:=cKz (Kd.aHz HO.o).2.2 j c hc;have n0:wq.cell? ⟨fb,1,none⟩=some (.slice (some ⟨o,0,none⟩) n co):=(abz a0.o 1).trans rfl
  have X0:=Za (show cutF wb i (row.drop (j+1)) (j+1) (cutCol wb c i j rows')=R0 by
   obtain ⟨h1,h2⟩:=Zk hc;have h:=HR.o;rw [List.drop_eq_getElem_cons h1,h2,cutF] at h
   exact h)
  have j1:(0:Int)<=(j:Int):=by omega
  have j2:(j:Int)<(L:Int):=by omega
  have K0:=Za (show Mx wq o bs (if j=i then rows' else cutTo wb c i j rows' 0) by rw [cutTo_zero,ite_self];exact HM.o);clear hc;go_wp2
  go_loopw [26] (fun kv w2=> ∃k:Nat,k<=n/\kv= .int .i64 (k:Int)/\Aside0 (Mx w2 o bs (if j=i then rows' else cutTo wb c i j rows' k))/\Aside0 (Fd w2 g wb (fpoly wb) S)/\Aside0 (BS W w2 g S0)/\Aside0 (w2.heap[fb]?=some (.cells #[.pointer (some ⟨g,0,none⟩), .slice (some ⟨o,0,none⟩) n co] 146 (0,0)))/\Aside0 ((Kd.int .i64).R 3 w2 (fb+1) (fun _=>True) (.slice (some J0) L rc) row)) (fun kv _=>n - (intOf kv).toNat)
  case atStart=>exact ⟨0,Nat.zero_le _,rfl,K0,HF,HB,a0,HO⟩
  clear K0 HF HB a0 HO n0 hcj HM;obtain ⟨w2,rfl⟩: ∃w2,w2=wr:=⟨_,rfl⟩;obtain ⟨k,hk,rfl,HM,HF,HB,a0,HO⟩:=hrel;by_cases P0:k<n
  ·obtain ⟨x,hx⟩: ∃x,rows'[k]?=some x:=⟨_,Zf (by have:=i0.o.1;omega)⟩
   have hat:(if j=i then rows' else cutTo wb c i j rows' k)[k]?=some x:=by
    split
    ·exact hx
    ·exact cutTo_at wb c i j rows' k x hx
   obtain ⟨⟨bi,ci⟩,hbi⟩: ∃q,bs[k]?=some q:=⟨_,Zf (by have h1:=HM.o.len;have h2:=(Zk hat).1;omega)⟩;have hxl:=i0.o.2 x (Zo hx);have hok:w2.cell? ⟨o,k,none⟩=some (.slice (some ⟨bi,0,none⟩) L ci):=by rw [HM.o.cCz hbi hat,hxl]
   have k1:(0:Int)<=(k:Int):=by omega
   have k2:(k:Int)<(n:Int):=by omega
   by_cases hji:j=i
   ·have hjn:((j:Int) !=(i:Int))=false:=by simp [hji]
    have e0:=Za (show Mx w2 o bs (if j=i then rows' else cutTo wb c i j rows' (k+1)) by have h:=HM.o;rw [Ya hji] at h|-;exact h);clear hx hat hbi hxl;go_wp2;go_roundw
    case rel=>exact ⟨k+1,by omega,by go_num,e0,HF,HB,a0,HO⟩
    case measure=>simp [intOf];omega
   ·have hjn:((j:Int) !=(i:Int))=true:=by simp;omega
    obtain ⟨y,hy⟩: ∃y,x[j]?=some y:=⟨_,Zf (by omega)⟩;obtain ⟨z,hz⟩: ∃z,x[i]?=some z:=⟨_,Zf (by omega)⟩;have hcy:w2.cell? ⟨bi,j,none⟩=some (.int .i64 y):=HM.o.cUz hbi hat hy;have hcz:w2.cell? ⟨bi,i,none⟩=some (.int .i64 z):=HM.o.cUz hbi hat hz;have hfi:=HM.o.froz_i hbi j;have M0:w2.cell? ⟨fb,0,none⟩=some (.pointer (some ⟨g,0,none⟩)):=(abz a0.o 0).trans rfl;obtain ⟨m1,d0⟩:=Fd.cells HF.o;have l0:=HM.o.ne_g d0;have U0:=Za l0;have N0:=Za hbi;have HAT:=Za hat;have hbS:=HX.o _ (z0.o _ _ _ hbi);have hblt:=HS.o _ hbS;have O0:=Za hbS;have j0:=Za (show bi<fb by have:=G0.o;omega)
    have HST:=Za (show (if j=i then rows' else cutTo wb c i j rows' k).set k (x.set j (Go.bits .xor .i64 y (gmul wb z c)))=(if j=i then rows' else cutTo wb c i j rows' (k+1)) by
     rw [Yb hji,Yb hji, <-cutTo_step wb c i j rows' k x hx];unfold cutRow
     rw [Zm,Zm,hy,hz];rfl)
    have d1:=Za (cLz.calls g S wb z c w2.drew HW.o HF.o.drew (fun q hq=>Zp (HS.o q hq) HB.o.size));have hfg:fb≠g:=by have:=G0.o;have:=e1.o;omega
    have Y0:=Za hfg;have c1:=Za (show∀w3,BB w2.drew w3 g->(w3.cell? ⟨fb,0,none⟩=some (.pointer (some ⟨g,0,none⟩))/\w3.cell? ⟨bi,j,none⟩=some (.int .i64 y)/\w3.cell? ⟨bi,i,none⟩=some (.int .i64 z))/\w3.frozen? ⟨bi,j,none⟩=false from fun w3 h=>⟨⟨cAz h (a:=w2.drew) M0 hfg,cAz h (a:=w2.drew) hcy (l0.2 _ _ _ hbi),cAz h (a:=w2.drew) hcz (l0.2 _ _ _ hbi)⟩,froz_bb h (a:=w2.drew) (p:=⟨bi,j,none⟩) (HM.o.lt_i hbi) hfi (l0.2 _ _ _ hbi)⟩);have V0:=Za (show∀w3,BB w2 w3 g->(Kd.int .i64).R 3 w3 (fb+1) (fun _=>True) (.slice (some J0) L rc) row from fun w3 W0=>Kd.aKz (Kd.dpz (Kd.dSz HO.o d0 (by decide)) (fun q hq hlt=>W0.block q hlt hq.2)) (fun _ _=>trivial));have i3:(i:Int)<(L:Int):=by omega
    clear hx hat hbi hxl hy hz hfi d0 l0 hbS hblt hfg
    go_wp2_with fail
    refine ccz (n:=15) (S:=fun w'=>w'.cell? ⟨fb,0,none⟩=some (.pointer (some ⟨g,0,none⟩))/\w'.cell? ⟨bi,j,none⟩=some (.int .i64 y)/\w'.cell? ⟨bi,i,none⟩=some (.int .i64 z)) (ds:= [14]) (bA 15 0) kr_ rfl rfl ⟨M0,hcy,hcz⟩ (fun hHeld=> ?_);refine pu_ 0 33 1 ?_;refine pu_ 1 34 3 ?_;refine pu_ 2 35 7 ?_;refine pu_ 4 37 23 ?_;refine pu_ 6 39 87 ?_;refine pu_ 7 40 215 ?_;refine pu_ 8 41 471 ?_;refine pu_ 10 43 1495 ?_;refine tk_ 3 36 1503 hHeld ?_;refine tk_ 5 38 1535 hHeld ?_;refine tk_ 9 42 2047 hHeld ?_;refine one_ (i:=11) (N:=some 44) (bA 15 4095) rfl rfl kr_ (by decide) (fun K hK=> ?_);refine goes_ func103 kr_ rfl #[.pointer (some ⟨g,0,none⟩), .int .i64 z, .int .i64 c] (by rfl) rfl rfl am_ ?_
    with_reducible refine (d1.o).mono ?_
    rintro e w3 ⟨rfl,q1,q2⟩;refine ⟨_,rfl,?_⟩;obtain ⟨⟨r1,r2,r3⟩,r4⟩:=c1.o w3 q2;have Q1:=Za q1;have Q3:=Za (show BB w2 w3 g from ⟨q2.os,q2.tape,q2.output,q2.size,q2.block⟩);clear q1 q2;refine hK.out _ _ ⟨r1,r2,r3⟩ (fun hHeld=> ?_);clear hK K;refine norm_ (a':= ?_) ?_ ?_;rotate_left
    ·show Act.put _ (some 44) _=_;simp only [Act.put,Zg,Zh,Zi,i64_w,i32_w];rfl
    refine pu_ 12 45 8191 ?_;refine pu_ 13 46 16383 ?_;refine last_ (i:=14) (N:=none) (bA 15 32767) rfl rfl kr_ (by decide) (fun K hK=> ?_);refine skip_ (w1:= ?_) (by rfl) rfl ?_ ?_;rotate_left
    ·go_simp;rfl
    refine hK.out _ _ ?_;clear hK K;refine done_ kr_ ?_;have e0:=Za ((HM.o.bb U0.o Q3.o).set (j:=j) N0.o HAT.o (Go.bits .xor .i64 y (gmul wb z c)));rw [HST.o] at e0;have t0:=Za (Q1.o.set (q:=⟨bi,j,none⟩) O0.o (.int .i64 (Go.bits .xor .i64 y (gmul wb z c))));have r0:=Za ((HB.o.trans (BS.of_bb Q3.o)).set (p:=⟨bi,j,none⟩) (.inl (z0.o _ _ _ N0.o)) (.int .i64 (Go.bits .xor .i64 y (gmul wb z c))));have b0:=Za (bHz ((Q3.o.block fb (aUz a0.o) Y0.o).trans a0.o) (show fb≠(⟨bi,j,none⟩:Addr).block from fun e=>by have:=j0.o;simp only at e;omega) (.int .i64 (Go.bits .xor .i64 y (gmul wb z c))));have Z0:=Za (Kd.aKz (Kd.cvz (w1:=w3.setCell ⟨bi,j,none⟩ (.int .i64 (Go.bits .xor .i64 y (gmul wb z c)))) (Kd.bUz (V0.o w3 Q3.o)) (fun q hq=>Below.heap_setCell w3 ⟨bi,j,none⟩ _ q (fun e=>by have h1:=hq.2.1;have h2:=j0.o;simp only at e;omega))) (ok':=fun _=>True) (fun _ _=>trivial))
    go_wp2;go_roundw
    case rel=>exact ⟨k+1,by omega,by go_num,e0,t0,r0,b0,Z0⟩
    case measure=>simp [intOf];omega
  ·obtain rfl:k=n:=by omega
   have Q0:=Za (show Mx w2 o bs (cutCol wb c i j rows') by
    have h:=HM.o;unfold cutCol;by_cases hji:j=i
    ·rw [Ya hji] at h|-;exact h
    ·rw [Yb hji] at h|-;rw [<-i0.o.1,cutTo_full] at h;exact h)
   have T0:=Za (show (cutCol wb c i j rows').length=k/\ ∀r,r∈cutCol wb c i j rows'->r.length=L from ⟨(eZz i0.o.2).2.trans i0.o.1,(eZz i0.o.2).1⟩);go_wp2;go_roundw
   case rel=>exact ⟨j+1,_,by omega,by go_num,X0,T0,Q0,HF,HB,a0,HO⟩
   case measure=>simp [intOf];omega
 ·obtain rfl:j=L:=by omega
  have HE:=Za (show Mx wq o bs R0 by
   have h:=HR.o;rw [List.drop_of_length_le (by rw [h0.o];exact Zv _),cutF] at h
   rw [<-h];exact HM.o)
  go_wp2
  go_end0
  exact ⟨rfl,HE.o,HF.o,HB.o⟩
theorem S_join2 {wq w2:World} {g B e t gt:Nat} {a0:Array Value} {Own:Nat->Prop} {u uv:Value} {xs:List (List Int)} {R:List Int} (HO:Kd.S (dM e .i64) t wq B Own u xs) (hlt: ∀q,Own q->q<wq.heap.size) (hg:wq.heap[g]?=some (.cells a0 gt (0,0))) (ht: ∀q,q∈t::(dM e .i64).E->q≠gt) (hb:BB wq w2 g) (hR:(Kd.int .i64).R e w2 wq.heap.size (fun _=>True) uv R) (hB:B<=wq.heap.size):
  Kd.S (dM e .i64) t w2 B (fun k'=>(Own k'\/some k'=uv.ownBlock\/w2.heap.size<=k')/\ ¬some k'=uv.ownBlock) u xs/\(dM e .i64).M w2 B (fun k'=>some k'=uv.ownBlock) R [uv] /\(∀k',some k'=uv.ownBlock->(Own k'\/some k'=uv.ownBlock\/w2.heap.size<=k')/\some k'≠u.ownBlock):=by
 have hub: ∀q,some q=uv.ownBlock->wq.heap.size<=q:=fun q e=>Kd.cbz hR q e.symm
 refine ⟨Kd.cPz (Kd.S_move (Kd.bDz (Kd.S_types HO hg ht)) (fun q hq=>hb.block q hq.2.2.1 hq.1.2)) (fun q hq=>⟨.inl hq.1.1,fun e=>by have:=hub q e;have:=hq.2.2.1;omega⟩),⟨_,rfl,Kd.bCz (Kd.b5z rfl hR) hB⟩,fun q e=>⟨.inr (.inl e),fun e2=> ?_⟩⟩;have h1:=hub q e;have h2:=Kd.R_lt (Kd.S_R HO) q e2.symm;omega
theorem Fd.joined {w2 w4:World} {g:Nat} {wb p:Int} {S Own:Nat->Prop} {u uv:Value} (h:Fd w2 g wb p (fun q=>(S q\/Own q)\/some q=uv.ownBlock)) (hu: ∀q,u.ownBlock=some q->Own q) (hg:w2.grownBy w4 u.ownBlock):
  Fd w4 g wb p (fun q=>S q\/((Own q\/some q=uv.ownBlock\/w2.heap.size<=q)/\q<w4.heap.size)):=by
 refine (Fd.grow h (fun q e=> .inl (.inr (hu q e))) hg).thin (fun q hq hs=> ?_);rcases hs with hs|⟨hs|hs|hs, -⟩
 ·exact .inl (.inl (.inl hs))
 ·exact .inl (.inl (.inr hs))
 ·exact .inl (.inr hs)
 ·exact .inr hs
def lastU (k:Nat):List Int:=(List.replicate k 0).set (k - 1) 1
def extM (wb:Int) (k m:Nat):List (List Int):=madeF (fun (i j:Nat)=>gpow wb (i:Int) (j:Int)) (k+m - 1) k++ [lastU k]
theorem Extended.calls (g:Nat) (wb:Int) (S:Nat->Prop) (k0 m0:Nat) (W:World) (hw:wb=8\/wb=16) (hF:Fd W g wb (fpoly wb) S) (hS: ∀k,S k->k<W.heap.size) (h1:1<=k0) (h2:1<=m0) (h3:k0<=8) (h4:m0<=4):
  Calls prog 112 #[.pointer (some ⟨g,0,none⟩), .int .i64 (k0:Int), .int .i64 (m0:Int)] W fun e w'=> ∃v, ∃Own:Nat->Prop,e= .returned (.tuple #[v, .int .i64 0])/\Kd.S (dM 3 .i64) 57 w' W.heap.size Own v (extM wb k0 m0)/\Fd w' g wb (fpoly wb) (fun q=>S q\/Own q)/\(∀q,Own q->q<w'.heap.size)/\BB W w' g:=by
 have HW:=Za hw;have HS:=Za hS;have HF:=Za (show Fd W g wb (fpoly wb) (fun q=>S q\/(fun _=>False) q) from hF.thin (fun q _ hs=>hs.elim id (fun e=>e.elim)));have e1: ¬(k0:Int)<1:=by omega
 have e2: ¬(m0:Int)<1:=by omega
 have e3: ¬(20:Int)<=(k0:Int):=by omega
 have e4: ¬(20:Int)<=(m0:Int):=by omega
 have e5:wrap64 ((k0:Int)+(m0:Int))=(k0:Int)+(m0:Int):=by unfold wrap64;omega
 have e6: ¬(20:Int)<(k0:Int)+(m0:Int):=by omega
 obtain ⟨rows,hrows⟩: ∃rows,k0+m0 - 1=rows:=⟨_,rfl⟩;have e7:wrap64 ((k0:Int)+(m0:Int) - 1)=(rows:Int):=by unfold wrap64;omega
 have e9:(k0:Int)+(m0:Int) - 1=(rows:Int):=by omega
 have hr:rows<=100:=by omega
 obtain ⟨tf,C0⟩: ∃tf:Nat->Nat->Int,(fun (i j:Nat)=>gpow wb (i:Int) (j:Int))=tf:=⟨_,rfl⟩;have HX:=Za (show extM wb k0 m0=madeF tf rows k0++ [lastU k0] by unfold extM;rw [C0,hrows]);generalize extM wb k0 m0=res at HX|-
 have HT:=Za (show∀(i j:Nat) (S':Nat->Prop) (w:World),Fd w g wb (fpoly wb) S'->(∀k,S' k->k<w.heap.size)->j<=100->Calls prog 122 #[.pointer (some ⟨g,0,none⟩), .int .i64 (i:Int), .int .i64 (j:Int)] w fun e w'=>e= .returned (.int .i64 (tf i j))/\Fd w' g wb (fpoly wb) S'/\BB w w' g by
  intro i j S' w h1 h2 h3;subst C0
  exact gf_Pow.calls g S' wb (i:Int) j w (by omega) hw h1 h2)
 clear hw hF hS C0 hrows;go_enter func112,ntmps112;go_wp2;have E1:=Za h1;have E3:=Za h3;clear e1 e2 e3 e4 e5 e6 e7 e9 h2 h4
 go_loopw [8,41] (fun v i wr=> ∃(k:Nat) (Own:Nat->Prop),k<=rows/\i= .int .i64 (k:Int)/\Aside0 (Kd.S (dM 3 .i64) 57 wr W.heap.size Own v (madeF tf k k0))/\Aside0 (Fd wr g wb (fpoly wb) (fun q=>S q\/Own q))/\Aside0 (∀q,Own q->q<wr.heap.size)/\Aside0 (BB W wr g)) (fun _ i _=>rows - (intOf i).toNat)
 case atStart=>exact ⟨0,fun _=>False,Nat.zero_le _,rfl,⟨Kd.S_nil _ _ _ _ _⟩,HF,⟨fun _ h=>h.elim⟩,⟨BB.refl _ _⟩⟩
 clear HF;obtain ⟨wq,rfl⟩: ∃wq,wq=wr:=⟨_,rfl⟩;obtain ⟨k,Own,hk,rfl,HO,HF,HOW,d0⟩:=hrel;by_cases hlt:k<rows
 ·have i0:=Za (show Fd wq g wb (fpoly wb) (fun q=>(S q\/Own q)\/some q=(Value.slice none 0 0).ownBlock) from HF.o.thin (fun q _ hs=>hs.elim id (fun e=>by simp [Value.ownBlock] at e)));go_wp2
  go_loopw [10,45] (fun u j w2=> ∃n:Nat,n<=k0/\j= .int .i64 (n:Int)/\Aside0 ((Kd.int .i64).R 3 w2 wq.heap.size (fun _=>True) u ((List.range n).map (tf k)))/\Aside0 (Fd w2 g wb (fpoly wb) (fun q=>(S q\/Own q)\/some q=u.ownBlock))/\Aside0 (BB wq w2 g)) (fun _ j _=>k0 - (intOf j).toNat)
  case atStart=>exact ⟨0,Nat.zero_le _,rfl,⟨Kd.R_nil _ _ _ _ _⟩,i0,⟨BB.refl _ _⟩⟩
  clear i0;obtain ⟨w2,rfl⟩: ∃w2,w2=wr:=⟨_,rfl⟩;obtain ⟨n,hn,rfl,HR,i0,e0⟩:=hrel;by_cases L0:n<k0
  ·have hSS : ∀ q, ((S q \/ Own q) \/ some q = u10.ownBlock) -> q < w2.heap.size := by
    have s1:=e0.o.size;have s2:=d0.o.size;rintro q ((h|h)|h)
    ·have:=HS.o q h;omega
    ·have:=HOW.o q h;omega
    ·exact Kd.R_lt HR.o q h.symm
   have z0:=Za (HT.o k n _ w2 i0.o hSS (by have:=E3.o;omega));have M0:=Za (show wq.heap.size<=w2.heap.size from e0.o.size);obtain ⟨J0,a0⟩:=Fd.cells i0.o;have v0:=Za (show∀w3,BB w2 w3 g->(Kd.int .i64).R 3 w3 wq.heap.size (fun _=>True) u10 ((List.range n).map (tf k)) from fun w3 O0=>Kd.aKz (Kd.dpz (Kd.dSz HR.o a0 (by decide)) (fun q hq hlt=>O0.block q hlt hq.2)) (fun _ _=>trivial));have K0:=Za (show ((List.range n).map (tf k)).length<=100 by have:=E3.o;simp;omega);have D0:=Za (d9z (tf k) n);generalize (List.range n).map (tf k)=pre at HR v0 K0 D0;generalize tf k n=z at z0 D0;clear hSS a0
   go_wp2_with fail
   refine z0.o.mono ?_;rintro e w3 ⟨rfl,q1,q2⟩;have N0:=Za (v0.o w3 q2);have P0:=Za q1;have n0:=Za (e0.o.trans q2);have Q0:=Za (Zt M0.o q2.size);clear q1 q2 z0 v0
   go_wp2_with ((with_reducible refine amz (b:= .append) (xs:= #[.tmp 48, .tmp 53]) rfl ?_);go_must (at_builtin;refine Kd.brz (Kd.int .i64) (w0:=w3) wq.heap.size rfl (.tmp 48) (.tmp 53) 57 3 (.int .i64 0) 8 rfl underlying57 kr_ rfl (by decide) (by decide) _ _ z [.int .i64 z] (fun _=>True) (fun _=>False) rfl rfl rfl (fun _ h=>h.elim) (fun _ _=>trivial) N0.o (Zw _ _) Q0.o (by have:=K0.o;omega) ?_);intro v2 w4 h0 f0 g0 c0;have p0:=Za h0;have b0:=Za f0;have l0:=Za (show w3.grownBy w4 u10.ownBlock from g0);have B0:=Za (show v2.ownBlock=u10.ownBlock\/ ∃b,v2.ownBlock=some b/\w3.heap.size<=b from c0);clear h0 f0 g0 c0)
   go_roundw
   case rel=>exact ⟨n+1,by omega,by go_num,⟨by rw [D0.o];exact p0.o⟩,⟨Fd.appended P0.o l0.o B0.o⟩,⟨n0.o.os▸b0.o.os,n0.o.tape▸b0.o.tape,n0.o.output▸b0.o.output,Zt n0.o.size b0.o.size,fun i hi hg=>(b0.o.block i hi).trans (n0.o.block i hi hg)⟩⟩
   case measure=>simp [intOf];omega
  ·obtain rfl:n=k0:=by omega
   obtain ⟨J0,a0⟩:=Fd.cells HF.o;have hj:=S_join2 HO.o HOW.o a0 (by decide) e0.o HR.o d0.o.size;have E0:=Za (show (madeF tf k n).length<=1000 by simp [madeF];omega);obtain ⟨va,vc,rfl⟩:=Kd.aQz HR.o;have H0:=Za (fbz tf k n)
   generalize ((List.range n).map (tf k)).length=nn at *
   generalize (List.range n).map (tf k)=R at hj H0;have r0:=Za hj.1;have t0:=Za hj.2.1;have A0:=Za hj.2.2;have o0:=Za (show W.heap.size<=w2.heap.size from Zt d0.o.size e0.o.size);have y0:=Za i0.o;have u0:=Za HO.o.choose_spec.1;clear hj a0 i0 HR
   go_wp2_with ((with_reducible refine amz (b:= .append) (xs:= #[.tmp 56, .tmp 58]) rfl ?_);go_must (at_builtin;refine Kd.bLz (dM 3 .i64) (w0:=w2) W.heap.size rfl (.tmp 56) (.tmp 58) 69 57 (.slice none 0 0) 24 rfl underlying69 kr_ rfl (by decide) (by decide) _ _ R [.slice va nn vc] _ _ rfl rfl t0.o A0.o (fun _ h=> .inr (.inr h)) r0.o (Zw _ _) o0.o (by have:=E0.o;omega) ?_);intro v2 w4 h0 f0 g0 c0;have p0:=Za h0;have b0:=Za f0;have l0:=Za (show w2.grownBy w4 u8.ownBlock from g0);have B0:=Za (show v2.ownBlock=u8.ownBlock\/ ∃b,v2.ownBlock=some b/\w2.heap.size<=b from c0);clear h0 f0 g0 c0)
   go_roundw
   case rel=>exact ⟨k+1,_,by omega,by go_num,⟨by rw [H0.o];exact Kd.cPz (Kd.bDz p0.o) (fun q hq=>⟨hq.1,hq.2.2.1⟩)⟩,⟨Fd.joined y0.o u0.o l0.o⟩,⟨fun q hq=>hq.2⟩,⟨⟨b0.o.os.trans (e0.o.os.trans d0.o.os),b0.o.tape.trans (e0.o.tape.trans d0.o.tape),b0.o.output.trans (e0.o.output.trans d0.o.output),Zt o0.o b0.o.size,fun i hi hg=>(b0.o.block i hi).trans ((e0.o.block i (Zp hi d0.o.size) hg).trans (d0.o.block i hi hg))⟩⟩⟩
   case measure=>simp [intOf];omega
 ·obtain rfl:k=rows:=by omega
  have HZ:=Za HO.o;have hmk:=eOz k0 (by omega);have e8:wrap64 ((k0:Int) - 1)=((k0 - 1:Nat):Int):=by unfold wrap64;omega
  have i1:(0:Int)<=((k0 - 1:Nat):Int):=by omega
  have i2:((k0 - 1:Nat):Int)<(k0:Int):=by omega
  have hnb:(wq.alloc (.cells (nums .i64 (List.replicate k0 0)).toArray 3)).heap[wq.heap.size]?=some (.cells (nums .i64 (List.replicate k0 0)).toArray 3 (0,0)):=heap_alloc_new _ _;have hcb:(wq.alloc (.cells (nums .i64 (List.replicate k0 0)).toArray 3)).cell? ⟨wq.heap.size,k0 - 1,none⟩=some (.int .i64 0):=(abz hnb _).trans (d8z .i64 _ _ 0 (by rw [List.getElem?_replicate];simp;omega));have R0:=bbz hnb (k0 - 1);obtain ⟨w5,I0⟩: ∃w5,wq.alloc (.cells ((nums .i64 (List.replicate k0 0)).set (k0 - 1) (.int .i64 1)).toArray 3)=w5:=⟨_,rfl⟩
  have G0:w5.heap[wq.heap.size]?=some (.cells (nums .i64 (lastU k0)).toArray 3 (0,0)):=by
   rw [<-I0,heap_alloc_new];simp [lastU,nums,List.map_set]
  have j0:Below wq.heap.size wq w5:=by rw [<-I0];exact aoz (Zw _ _) _
  have hlen:(lastU k0).length=k0:=by simp [lastU]
  have F0:(Kd.int .i64).R 3 w5 wq.heap.size (fun _=>True) (.slice (some ⟨wq.heap.size,0,none⟩) k0 k0) (lastU k0):=
   dCz ⟨by rw [nums_length,Nat.mul_one], .inr ⟨_,k0,_,by rw [hlen],Zv _,G0,by rw [hlen];exact Zv _,by unfold maxLen;omega,by simp [nums_length,hlen],by rw [hlen];simp;rw [List.take_of_length_le (by rw [nums_length,hlen];exact Zv _)]⟩⟩
  obtain ⟨J0,a0⟩:=Fd.cells HF.o;have hj:=S_join2 HO.o HOW.o a0 (by decide) (BB.of_below j0 g) F0 d0.o.size;have E0:=Za (show (madeF tf k k0).length<=1000 by simp [madeF];omega);have r0:=Za hj.1;have t0:=Za hj.2.1;have A0:=Za hj.2.2;have o0:=Za (show W.heap.size<=w5.heap.size from Zt d0.o.size j0.size);have q0:=Za j0;have y0:=Za (show Fd w5 g wb (fpoly wb) (fun q=>(S q\/Own q)\/some q=(Value.slice (some ⟨wq.heap.size,0,none⟩) k0 k0).ownBlock) from ((HF.o.more).below j0).thin (fun q _ hs=>hs.elim .inl (fun e=> .inr (by simp [Value.ownBlock] at e;omega))));have u0:=Za HO.o.choose_spec.1;clear hnb hj a0 F0 G0 hlen j0 HZ
  go_wp2_with ((with_reducible refine amz (b:= .append) (xs:= #[.tmp 67, .tmp 69]) rfl ?_);go_must (at_builtin;refine Kd.bLz (dM 3 .i64) (w0:=w5) W.heap.size rfl (.tmp 67) (.tmp 69) 69 57 (.slice none 0 0) 24 rfl underlying69 kr_ rfl (by decide) (by decide) _ _ (lastU k0) [.slice (some ⟨wq.heap.size,0,none⟩) k0 k0] _ _ rfl rfl t0.o A0.o (fun _ h=> .inr (.inr h)) r0.o (Zw _ _) o0.o (by have:=E0.o;omega) ?_);intro v2 w4 h0 f0 g0 c0;have p0:=Za h0;have b0:=Za f0;have l0:=Za (show w5.grownBy w4 u8.ownBlock from g0);have B0:=Za (show v2.ownBlock=u8.ownBlock\/ ∃b,v2.ownBlock=some b/\w5.heap.size<=b from c0);clear h0 f0 g0 c0)
  go_ret2;refine ⟨_,_,rfl,by rw [HX.o];exact Kd.cPz (Kd.bDz p0.o) (fun q hq=>⟨hq.1,hq.2.2.1⟩),Fd.joined y0.o u0.o l0.o,fun q hq=>hq.2,⟨b0.o.os.trans (q0.o.os.trans d0.o.os),b0.o.tape.trans (q0.o.tape.trans d0.o.tape),b0.o.output.trans (q0.o.output.trans d0.o.output),Zt o0.o b0.o.size,fun i hi hg=>(b0.o.block i hi).trans ((q0.o.block i (Zp hi d0.o.size)).trans (d0.o.block i hi hg))⟩⟩
def sclRow (wb c:Int) (j:Nat) (row:List Int):List Int:=row.set j (gmul wb (row.getD j 0) c)
def sclTo (wb c:Int) (from_ j:Nat) (rows:List (List Int)) (i:Nat):List (List Int):=rows.take from_++(((rows.drop from_).take i).map (sclRow wb c j)++(rows.drop from_).drop i)
theorem sclTo_zero (wb c:Int) (from_ j:Nat) (rows:List (List Int)):sclTo wb c from_ j rows 0=rows:=by simp [sclTo]
theorem sclTo_at (wb c:Int) (from_ j:Nat) (rows:List (List Int)) (i:Nat) (row:List Int) (hf:from_<=rows.length) (h:rows[from_+i]?=some row):(sclTo wb c from_ j rows i)[from_+i]?=some row:=by
 have hi:=(Zk h).1;unfold sclTo;rw [List.getElem?_append_right (by simp;omega),List.length_take,Nat.min_eq_left hf,Nat.add_sub_cancel_left,List.getElem?_append_right (by simp;omega)];simp only [List.length_map,List.length_take,List.length_drop,List.getElem?_drop];rw [show from_+(i+(i - min i (rows.length - from_)))=from_+i by omega];exact h
theorem sclTo_step (wb c:Int) (from_ j:Nat) (rows:List (List Int)) (i:Nat) (row:List Int) (hf:from_<=rows.length) (h:rows[from_+i]?=some row):(sclTo wb c from_ j rows i).set (from_+i) (sclRow wb c j row)=sclTo wb c from_ j rows (i+1):=by
 have hi:=(Zk h).1;have h2:(rows.drop from_)[i]?=some row:=by rw [List.getElem?_drop];exact h
 obtain ⟨h3,h4⟩:=Zk h2;unfold sclTo;rw [List.set_append_right _ _ (by simp;omega),List.length_take,Nat.min_eq_left hf,Nat.add_sub_cancel_left,List.set_append_right _ _ (by simp;omega),List.length_map,List.length_take,List.length_drop,show i - min i (rows.length - from_)=0 by omega,List.drop_eq_getElem_cons h3,Zh,List.take_add_one,h2,List.map_append,List.append_assoc];rfl
theorem fcz (wb c:Int) (from_ j:Nat) (rows:List (List Int)) (i L:Nat) (h: ∀r,r∈rows->r.length=L): ∀r,r∈sclTo wb c from_ j rows i->r.length=L:=by
 intro r hr;unfold sclTo at hr;rcases List.mem_append.1 hr with hr|hr
 ·exact h r (List.mem_of_mem_take hr)
 ·rcases List.mem_append.1 hr with hr|hr
  ·obtain ⟨q,hq,rfl⟩:=List.mem_map.1 hr;simp only [sclRow,List.length_set];exact h q (List.mem_of_mem_drop (List.mem_of_mem_take hq))
  ·exact h r (List.mem_of_mem_drop (List.mem_of_mem_drop hr))
def sclF (wb c:Int) (from_ j:Nat) (rows:List (List Int)):List (List Int):=sclTo wb c from_ j rows (rows.length - from_)
theorem scale.calls (g o : Nat) (wb : Int) (S0 S : Nat -> Prop) (n co L from_ j : Nat) (c : Int) (bs : List (Nat × Nat)) (rows : List (List Int)) (W : World) (hw : wb = 8 \/ wb = 16) (hF : Fd W g wb (fpoly wb) S) (hx : ∀ k, S0 k -> S k) (hS : ∀ k, S k -> k < W.heap.size)
  (hM:Mx W o bs rows) (hSb: ∀(i b c:Nat),bs[i]?=some (b,c)->S0 b) (hn:rows.length=n) (hco:n<=co) (hnn:n<=100) (hL: ∀r,r∈rows->r.length=L) (z0:L<=100) (hj:j<L) (hf:from_<=n) (hfn:from_<n):
  Calls prog 115 #[.agg #[.pointer (some ⟨g,0,none⟩), .slice (some ⟨o,0,none⟩) n co], .int .i64 (from_:Int), .int .i64 (j:Int), .int .i64 c] W fun e w'=>e= .returned (.tuple #[])/\Mx w' o bs (sclF wb c from_ j rows)/\Fd w' g wb (fpoly wb) S/\BS W w' g S0:=by
 have HW:=Za hw;have HF:=Za (hF.alloc (.cells #[.pointer (some ⟨g,0,none⟩), .slice (some ⟨o,0,none⟩) n co] 146));have HX:=Za hx;have HS:=Za hS;have HM:=Za (show Mx (W.alloc (.cells #[.pointer (some ⟨g,0,none⟩), .slice (some ⟨o,0,none⟩) n co] 146)) o bs (sclTo wb c from_ j rows 0) by rw [sclTo_zero];exact hM.alloc _);have i0:=Za hSb;have HL:=Za hL;have HN:=Za hn;have hbx:(W.alloc (.cells #[.pointer (some ⟨g,0,none⟩), .slice (some ⟨o,0,none⟩) n co] 146)).heap[W.heap.size]?=some (.cells #[.pointer (some ⟨g,0,none⟩), .slice (some ⟨o,0,none⟩) n co] 146 (0,0)):=heap_alloc_new _ _;have a0:=Za hbx;have HB:=Za (show BS W (W.alloc (.cells #[.pointer (some ⟨g,0,none⟩), .slice (some ⟨o,0,none⟩) n co] 146)) g S0 from BS.alloc (BS.refl _ _ _) _);have y0:=Za hF.lt;have d0:(W.alloc (.cells #[.pointer (some ⟨g,0,none⟩), .slice (some ⟨o,0,none⟩) n co] 146)).cell? ⟨W.heap.size,1,none⟩=some (.slice (some ⟨o,0,none⟩) n co):=(abz hbx 1).trans rfl
 have f1:(0:Int)<=(from_:Int):=by omega
 have f2:(from_:Int)<=(n:Int):=by omega
 have f3: ¬co=from_:=by omega
 have f3': ¬from_=co:=by omega
 obtain ⟨nl,hnl⟩: ∃nl,n - from_=nl:=⟨_,rfl⟩;have o0:=Za hnl;have f5:from_+nl=n:=by omega
 have n0:=Za f5;have h0:nl<=100:=by omega
 clear f5;have j1:(0:Int)<=(j:Int):=by omega
 have j2:(j:Int)<(L:Int):=by omega
 clear hw hF hx hS hM hSb hL hn hbx;go_enter func115,ntmps115;go_wp2;generalize W.alloc (.cells #[.pointer (some ⟨g,0,none⟩), .slice (some ⟨o,0,none⟩) n co] 146)=w1 at HF HM a0 HB d0|-;obtain ⟨fb,j0⟩: ∃fb,fb=W.heap.size:=⟨_,rfl⟩;have k0:=Za j0;rw [<-j0] at a0 d0|-;clear j0 hnl d0
 go_loopw [15] (fun i wr=> ∃k:Nat,k<=nl/\i= .int .i64 (k:Int)/\Aside0 (Mx wr o bs (sclTo wb c from_ j rows k))/\Aside0 (Fd wr g wb (fpoly wb) S)/\Aside0 (BS W wr g S0)/\Aside0 (wr.heap[fb]?=some (.cells #[.pointer (some ⟨g,0,none⟩), .slice (some ⟨o,0,none⟩) n co] 146 (0,0)))) (fun i _=>nl - (intOf i).toNat)
 case atStart=>exact ⟨0,Nat.zero_le _,rfl,HM,HF,HB,a0⟩
 clear HM HF HB a0;obtain ⟨k,hk,rfl,HM,HF,HB,a0⟩:=hrel;by_cases hlt:k<nl
 ·obtain ⟨row,hrow⟩: ∃r,rows[from_+k]?=some r:=⟨_,Zf (by have:=HN.o;have:=n0.o;omega)⟩;obtain ⟨⟨bi,ci⟩,hbi⟩: ∃q,bs[from_+k]?=some q:=⟨_,Zf (by have h1:=HM.o.len;have h2:=(Zk (sclTo_at wb c from_ j rows k row (by rw [HN.o];omega) hrow)).1;omega)⟩;have hat:=sclTo_at wb c from_ j rows k row (by rw [HN.o];omega) hrow;have hrl:=HL.o row (Zo hrow);obtain ⟨x,hx⟩: ∃x,row[j]?=some x:=⟨_,Zf (by omega)⟩;have q0:wr.cell? ⟨o,from_+k,none⟩=some (.slice (some ⟨bi,0,none⟩) L ci):=by rw [HM.o.cCz hbi hat,hrl]
  have hci:wr.cell? ⟨bi,j,none⟩=some (.int .i64 x):=HM.o.cUz hbi hat hx;have hfi:=HM.o.froz_i hbi j;have r0:wr.cell? ⟨fb,0,none⟩=some (.pointer (some ⟨g,0,none⟩)):=(abz a0.o 0).trans rfl;obtain ⟨A0,b0⟩:=Fd.cells HF.o;have c0:=HM.o.ne_g b0;have p0:=Za c0;have g0:=Za hbi;have HAT:=Za hat
  have HST:=Za (show (sclTo wb c from_ j rows k).set (from_+k) (row.set j (gmul wb x c))=sclTo wb c from_ j rows (k+1) by
   rw [<-sclTo_step wb c from_ j rows k row (by rw [HN.o];omega) hrow];unfold sclRow
   rw [Zm,hx];rfl)
  have e0:=Za (show fb≠bi from fun e=>by
   have h1:=HX.o _ (i0.o _ _ _ hbi);have h2:=HS.o _ h1;have h3:=k0.o
   omega)
  have w0:=Za (cLz.calls g S wb x c wr.drew HW.o HF.o.drew (fun k hk=>Zp (HS.o k hk) HB.o.size));have v0:=Za (show∀w3,BB wr.drew w3 g->w3.cell? ⟨bi,j,none⟩=some (.int .i64 x)/\w3.frozen? ⟨bi,j,none⟩=false from fun w3 h=>⟨cAz h (a:=wr.drew) hci (c0.2 _ _ _ hbi),froz_bb h (a:=wr.drew) (p:=⟨bi,j,none⟩) (HM.o.lt_i hbi) hfi (c0.2 _ _ _ hbi)⟩);have k1:(0:Int)<=(k:Int):=by omega
  have k2:(k:Int)<(nl:Int):=by omega
  clear hrow hbi hat hrl hx hfi b0 c0
  go_wp2_with fail
  refine ccz (n:=12) (S:=fun w'=>w'.cell? ⟨fb,0,none⟩=some (.pointer (some ⟨g,0,none⟩))/\w'.cell? ⟨bi,j,none⟩=some (.int .i64 x)) (ds:= [9,11]) (bA 12 0) kr_ rfl rfl ⟨r0,hci⟩ (fun hHeld=> ?_);refine pu_ 0 19 1 ?_;refine pu_ 1 20 3 ?_;refine pu_ 2 21 7 ?_;refine pu_ 4 23 23 ?_;refine pu_ 5 24 55 ?_;refine pu_ 6 25 119 ?_;refine pu_ 8 27 375 ?_;refine tk_ 3 22 383 hHeld ?_;refine tk_ 7 26 511 hHeld ?_;refine last_ (i:=9) (N:=some 28) (bA 12 1023) rfl rfl kr_ (by decide) (fun K hK=> ?_);refine goes_ func103 kr_ rfl #[.pointer (some ⟨g,0,none⟩), .int .i64 x, .int .i64 c] (by rfl) rfl rfl am_ ?_
  with_reducible refine (w0.o).mono ?_
  rintro e w3 ⟨rfl,q1,q2⟩;refine ⟨_,rfl,?_⟩;obtain ⟨r1,r2⟩:=v0.o w3 q2;have Q1:=Za q1;have Q3:=Za (show BB wr w3 g from ⟨q2.os,q2.tape,q2.output,q2.size,q2.block⟩);clear q1 q2;refine hK.out _ _ ?_;clear hK K;refine norm_ (a':= ?_) ?_ ?_;rotate_left
  ·show Act.put _ (some 28) _=_;simp only [Act.put,Zg,Zh,Zi,i64_w,i32_w];rfl
  refine pu_ 10 29 2047 ?_;refine last_ (i:=11) (N:=none) (bA 12 4095) rfl rfl kr_ (by decide) (fun K hK=> ?_);refine skip_ (w1:= ?_) (by rfl) rfl ?_ ?_;rotate_left
  ·go_simp;rfl
  refine hK.out _ _ ?_;clear hK K;refine done_ kr_ ?_;have l0:=Za ((HM.o.bb p0.o Q3.o).set (j:=j) g0.o HAT.o (gmul wb x c));rw [HST.o] at l0;have u0:=Za (Q1.o.set (q:=⟨bi,j,none⟩) (HX.o _ (i0.o _ _ _ g0.o)) (.int .i64 (gmul wb x c)));have t0:=Za ((HB.o.trans (BS.of_bb Q3.o)).set (p:=⟨bi,j,none⟩) (.inl (i0.o _ _ _ g0.o)) (.int .i64 (gmul wb x c)));have f0:=Za (bHz ((Q3.o.block fb (aUz a0.o) (by have:=k0.o;have:=y0.o;omega)).trans a0.o) (show fb≠(⟨bi,j,none⟩:Addr).block from e0.o) (.int .i64 (gmul wb x c)));go_wp2;go_roundw
  case rel=>exact ⟨k+1,by omega,by go_num,l0,u0,t0,f0⟩
  case measure=>have:=n0.o;simp [intOf];omega
 ·obtain rfl:k=nl:=by omega
  have HE:=Za (show Mx wr o bs (sclF wb c from_ j rows) by unfold sclF;rw [HN.o,o0.o];exact HM.o);go_wp2
  go_end0
  exact ⟨rfl,HE.o,HF.o,HB.o⟩
def swpRow (i j:Nat) (x:List Int):List Int:=(x.set i (x.getD j 0)).set j (x.getD i 0)
def swpTo (i j:Nat) (rows:List (List Int)) (k:Nat):List (List Int):=(rows.take k).map (swpRow i j)++rows.drop k
def pivJ (i:Nat):List Int->Nat->Option Nat
 | [],_=>none
 |c::cs,j=>if j<i\/c=0 then pivJ i cs (j+1) else some j
def swpF (i:Nat) (rows:List (List Int)):List (List Int):=match pivJ i (rows.getD i []) 0 with
 |none=>rows
 |some j=>rows.map (swpRow i j)
def stepF (wb:Int) (i:Nat) (rows:List (List Int)):List (List Int):=
 let r1:=swpF i rows
 let r2:=sclF wb (ginv wb ((r1.getD i []).getD i 0)) 0 i r1
 cutF wb i (r2.getD i []) 0 r2
theorem swpTo_zero (i j:Nat) (rows:List (List Int)):swpTo i j rows 0=rows:=by simp [swpTo]
theorem swpTo_full (i j:Nat) (rows:List (List Int)):swpTo i j rows rows.length=rows.map (swpRow i j):=by simp [swpTo]
theorem swpTo_at (i j:Nat) (rows:List (List Int)) (k:Nat) (x:List Int) (h:rows[k]?=some x):(swpTo i j rows k)[k]?=some x:=by
 have hi:=(Zk h).1;unfold swpTo;rw [List.getElem?_append_right (by simp;omega)];simp only [List.length_map,List.length_take,List.getElem?_drop];rw [show k+(k - min k rows.length)=k by omega];exact h
theorem swpTo_step (i j:Nat) (rows:List (List Int)) (k:Nat) (x:List Int) (h:rows[k]?=some x):(swpTo i j rows k).set k (swpRow i j x)=swpTo i j rows (k+1):=by
 have hi:=(Zk h).1;obtain ⟨_,e⟩:=Zk h;unfold swpTo;rw [List.set_append_right _ _ (by simp;omega),List.length_map,List.length_take,show k - min k rows.length=0 by omega,List.drop_eq_getElem_cons hi,Zh,List.take_add_one,h,List.map_append,List.append_assoc];rfl
theorem swpRow_length (i j:Nat) (x:List Int):(swpRow i j x).length=x.length:=by simp [swpRow]
theorem pivJ_drop (i:Nat) (row:List Int) (j:Nat) (c:Int) (hc:row[j]?=some c):pivJ i (row.drop j) j=if j<i\/c=0 then pivJ i (row.drop (j+1)) (j+1) else some j:=by
 obtain ⟨h1,h2⟩:=Zk hc;rw [List.drop_eq_getElem_cons h1,h2,pivJ]
theorem swpF_each {i:Nat} {rows:List (List Int)} {L:Nat} (h: ∀r,r∈rows->r.length=L):(∀r,r∈swpF i rows->r.length=L)/\(swpF i rows).length=rows.length:=by
 unfold swpF;split
 ·exact ⟨h,rfl⟩
 ·refine ⟨fun r hr=> ?_,by simp⟩;obtain ⟨q,hq,rfl⟩:=List.mem_map.1 hr;rw [swpRow_length];exact h q hq
theorem jstep.calls (g o : Nat) (wb : Int) (S0 S : Nat -> Prop) (n co L i : Nat) (bs : List (Nat × Nat)) (rows : List (List Int)) (row : List Int) (W : World) (hw : wb = 8 \/ wb = 16) (hF : Fd W g wb (fpoly wb) S) (hx : ∀ k, S0 k -> S k) (hS : ∀ k, S k -> k < W.heap.size)
  (hM:Mx W o bs rows) (hSb: ∀(i b c:Nat),bs[i]?=some (b,c)->S0 b) (hn:rows.length=n) (hco:n<=co) (hnn:n<=100) (hL: ∀r,r∈rows->r.length=L) (P0:L<=100) (n1:1<=L) (hi:i<n) (D0:i<L) (hrow:rows[i]?=some row):
  Calls prog 113 #[.agg #[.pointer (some ⟨g,0,none⟩), .slice (some ⟨o,0,none⟩) n co], .int .i64 (i:Int)] W fun e w'=>e= .returned (.tuple #[])/\Mx w' o bs (stepF wb i rows)/\Fd w' g wb (fpoly wb) S/\BS W w' g S0:=by
 have HW:=Za hw;have HF:=Za (hF.alloc (.cells #[.pointer (some ⟨g,0,none⟩), .slice (some ⟨o,0,none⟩) n co] 146));have HX:=Za hx;have HS:=Za hS;have HM:=Za (hM.alloc (.cells #[.pointer (some ⟨g,0,none⟩), .slice (some ⟨o,0,none⟩) n co] 146));have h0:=Za hSb;have HL:=Za hL;have HN:=Za hn;have y0:=Za hrow;have hrl:=hL row (Zo hrow);have I0:=Za hrl;obtain ⟨⟨bi,ci⟩,hbi⟩: ∃q,bs[i]?=some q:=⟨_,Zf (by have:=hM.len;omega)⟩;have z0:=Za hbi;have hbx:(W.alloc (.cells #[.pointer (some ⟨g,0,none⟩), .slice (some ⟨o,0,none⟩) n co] 146)).heap[W.heap.size]?=some (.cells #[.pointer (some ⟨g,0,none⟩), .slice (some ⟨o,0,none⟩) n co] 146 (0,0)):=heap_alloc_new _ _;have d0:=Za hbx;have HB:=Za (show BS W (W.alloc (.cells #[.pointer (some ⟨g,0,none⟩), .slice (some ⟨o,0,none⟩) n co] 146)) g S0 from BS.alloc (BS.refl _ _ _) _);have m1:=Za hF.lt;have o1:=Za hM.lt_o;have r0:(W.alloc (.cells #[.pointer (some ⟨g,0,none⟩), .slice (some ⟨o,0,none⟩) n co] 146)).cell? ⟨W.heap.size,1,none⟩=some (.slice (some ⟨o,0,none⟩) n co):=(abz hbx 1).trans rfl
 have hoi:(W.alloc (.cells #[.pointer (some ⟨g,0,none⟩), .slice (some ⟨o,0,none⟩) n co] 146)).cell? ⟨o,i,none⟩=some (.slice (some ⟨bi,0,none⟩) L ci):=by rw [HM.o.cCz hbi hrow,hrl]
 have i1:(0:Int)<=(i:Int):=by omega
 have i2:(i:Int)<(n:Int):=by omega
 have i3:(i:Int)<(L:Int):=by omega
 obtain ⟨res,hres⟩: ∃res,stepF wb i rows=res:=⟨_,rfl⟩;have n0:=Za hres;rw [hres]
 have c0:=Za (show swpF i rows=(match pivJ i (row.drop 0) 0 with |none=>rows|some j=>rows.map (swpRow i j)) by
  unfold swpF
  rw [Zm,hrow];rfl)
 clear hw hF hx hS hM hSb hL hn hrow hrl hbi hbx hres;go_enter func113,ntmps113
 go_upto_block 0 with fail
 generalize W.alloc (.cells #[.pointer (some ⟨g,0,none⟩), .slice (some ⟨o,0,none⟩) n co] 146)=w1 at HF HM d0 HB r0 hoi|-;obtain ⟨fb,B0⟩: ∃fb,fb=W.heap.size:=⟨_,rfl⟩;have w0:=Za B0;rw [<-B0] at d0 r0|-;clear B0
 go_cut [] from 4 (fun wc=>Aside0 (Mx wc o bs (swpF i rows))/\Aside0 (Fd wc g wb (fpoly wb) S)/\Aside0 (BS W wc g S0)/\Aside0 (wc.heap[fb]?=some (.cells #[.pointer (some ⟨g,0,none⟩), .slice (some ⟨o,0,none⟩) n co] 146 (0,0))))
 case rest=>
  obtain ⟨e0,u0,t0,a0⟩:=hcut;clear HF HM HB d0 r0 hoi c0;have HE:=Za (swpF_each (i:=i) HL.o);have b0:=n0.o;unfold stepF at b0;have N0:=Za b0;clear b0 n0;generalize swpF i rows=r1 at e0 HE N0;obtain ⟨f0,q0⟩: ∃r,r1[i]?=some r:=⟨_,Zf (by have:=HE.o.2;have:=HN.o;omega)⟩;have K0:=HE.o.1 f0 (Zo q0);obtain ⟨p,hp⟩: ∃p,f0[i]?=some p:=⟨_,Zf (by omega)⟩;have X0:wc.cell? ⟨fb,0,none⟩=some (.pointer (some ⟨g,0,none⟩)):=(abz a0.o 0).trans rfl;have Y0:wc.cell? ⟨fb,1,none⟩=some (.slice (some ⟨o,0,none⟩) n co):=(abz a0.o 1).trans rfl;have d1:wc.cell? ⟨o,i,none⟩=some (.slice (some ⟨bi,0,none⟩) L ci):=by rw [e0.o.cCz z0.o q0,K0]
  have c1:wc.cell? ⟨bi,i,none⟩=some (.int .i64 p):=e0.o.cUz z0.o q0 hp;have f1:=Za (gf_Inv.calls g S wb p wc.drew HW.o u0.o.drew (fun q hq=>Zp (HS.o q hq) t0.o.size))
  have V0:=Za (show (r1.getD i []).getD i 0=p by
   have e1:r1.getD i [] =f0:=by rw [Zm,q0];rfl
   rw [e1,Zm,hp];rfl)
  clear q0 K0 hp
  go_wp2_with fail
  refine ccz (n:=16) (S:=fun w'=>w'.cell? ⟨fb,0,none⟩=some (.pointer (some ⟨g,0,none⟩))/\w'.cell? ⟨fb,1,none⟩=some (.slice (some ⟨o,0,none⟩) n co)/\w'.cell? ⟨o,i,none⟩=some (.slice (some ⟨bi,0,none⟩) L ci)/\w'.cell? ⟨bi,i,none⟩=some (.int .i64 p)) (ds:= [10]) (bA 16 0) kr_ rfl rfl ⟨X0,Y0,d1,c1⟩ (fun hHeld=> ?_);refine pu_ 0 52 1 ?_;refine pu_ 2 54 5 ?_;refine pu_ 4 56 21 ?_;refine pu_ 7 59 149 ?_;refine tk_ 1 53 151 hHeld ?_;refine tk_ 3 55 159 hHeld ?_;refine pu_ 5 57 191 ?_;refine tk_ 6 58 255 hHeld ?_;refine pu_ 8 60 511 ?_;refine tk_ 9 61 1023 hHeld ?_;refine last_ (i:=10) (N:=some 62) (bA 16 2047) rfl rfl kr_ (by decide) (fun K hK=> ?_);refine goes_ func114 kr_ rfl #[.pointer (some ⟨g,0,none⟩), .int .i64 p] (by rfl) rfl rfl am_ ?_
  with_reducible refine (f1.o).mono ?_
  rintro e w3 ⟨rfl,q1,q2⟩;refine ⟨_,rfl,?_⟩;have Q1:=Za q1;have Q3:=Za (show BB wc w3 g from ⟨q2.os,q2.tape,q2.output,q2.size,q2.block⟩);clear q1 q2;refine hK.out _ _ ?_;clear hK K;refine norm_ (a':= ?_) ?_ ?_;rotate_left
  ·show Act.put _ (some 62) _=_;simp only [Act.put,Zg,Zh,Zi,i64_w,i32_w];rfl
  refine pu_ 11 51 4095 ?_;refine pu_ 12 63 8191 ?_;refine pu_ 13 64 16383 ?_;refine pu_ 14 8 32767 ?_;refine pu_ 15 9 65535 ?_;refine done_ kr_ ?_;have Q0:=e0.o.ne_g (Fd.cells u0.o).choose_spec;have g1:=Za (e0.o.bb Q0 Q3.o);have H0:=Za (t0.o.trans (BS.of_bb Q3.o));have hfg:fb≠g:=by have:=w0.o;have:=m1.o;omega
  have g0:=Za ((Q3.o.block fb (aUz a0.o) hfg).trans a0.o);have o0:w3.cell? ⟨fb,0,none⟩=some (.pointer (some ⟨g,0,none⟩)):=(abz g0.o 0).trans rfl;have l0:w3.cell? ⟨fb,1,none⟩=some (.slice (some ⟨o,0,none⟩) n co):=(abz g0.o 1).trans rfl;have Z0:=Za (scale.calls g o wb S0 S n co L 0 i (ginv wb p) bs r1 w3 HW.o Q1.o HX.o (fun q hq=>Zp (HS.o q hq) H0.o.size) g1.o h0.o (HE.o.2.trans HN.o) hco hnn HE.o.1 P0 D0 (Nat.zero_le _) (by omega));clear Q0;have a1:=Za hfg;clear hfg
  go_wp2_with fail
  refine Z0.o.mono ?_;rintro e w5 ⟨rfl,m5,f5,b5⟩;have E0:=Za (H0.o.trans b5);have k0:=Za (b5.blk g0.o a1.o (fun hs=>by have h1:=HS.o _ (HX.o _ hs);have h2:=w0.o;omega));have J0:w5.cell? ⟨fb,0,none⟩=some (.pointer (some ⟨g,0,none⟩)):=(abz k0.o 0).trans rfl;have O0:w5.cell? ⟨fb,1,none⟩=some (.slice (some ⟨o,0,none⟩) n co):=(abz k0.o 1).trans rfl
  have C0:(sclF wb (ginv wb p) 0 i r1).length=n:=by
   have:=HE.o.2;have:=HN.o;simp [sclF,sclTo];omega
  obtain ⟨p0,v0⟩: ∃r,(sclF wb (ginv wb p) 0 i r1)[i]?=some r:=⟨_,Zf (by omega)⟩;have M0:=Za (jclear.calls g o wb S0 S n co L i bs _ p0 w5 HW.o f5 HX.o (fun q hq=>Zp (HS.o q hq) E0.o.size) m5 h0.o C0 hco hnn (fcz _ _ _ _ _ _ _ HE.o.1) P0 n1 (by omega) D0 v0)
  have b1:=Za (show cutF wb i p0 0 (sclF wb (ginv wb p) 0 i r1)=res by
   rw [<-N0.o];simp only [V0.o]
   rw [Zm,v0];rfl)
  rw [b1.o] at M0;clear m5 f5 b5 C0 v0 o0 l0
  go_wp2_with fail
  refine M0.o.mono ?_;rintro e w6 ⟨rfl,m6,f6,b6⟩;have M6:=Za m6;have F6:=Za f6;have B6:=Za b6;clear m6 f6 b6;go_wp2
  go_end0
  exact ⟨rfl,M6.o,F6.o,E0.o.trans B6.o⟩
 go_wp2
 go_loopw [16] (fun jv wr=> ∃j:Nat,j<=L/\jv= .int .i64 (j:Int)/\Aside0 (swpF i rows=(match pivJ i (row.drop j) j with |none=>rows|some j=>rows.map (swpRow i j)))/\wr=w1) (fun jv _=>L - (intOf jv).toNat)
 case atStart=>exact ⟨0,Nat.zero_le _,rfl,c0,rfl⟩
 clear c0;obtain ⟨j,hj,rfl,c0,rfl⟩:=hrel;by_cases hlt:j<L
 ·obtain ⟨c,hc⟩: ∃c,row[j]?=some c:=⟨_,Zf (by have:=I0.o;omega)⟩;have hcj:wr.cell? ⟨bi,j,none⟩=some (.int .i64 c):=HM.o.cUz z0.o y0.o hc;have j0:=pivJ_drop i row j c hc;have j1:(0:Int)<=(j:Int):=by omega
  have j2:(j:Int)<(L:Int):=by omega
  by_cases hsk:j<i\/c=0
  ·rw [Ya hsk] at j0;have G0:=Za (c0.o.trans (by rw [j0]));clear j0 hc c0;by_cases hji:j<i
   ·have h1:(j:Int)<(i:Int):=by omega
    go_wp2;go_roundw
    case rel=>exact ⟨j+1,by omega,by go_num,G0,by first|rfl|trivial⟩
    case measure=>simp [intOf];omega
   ·obtain rfl:c=0:=hsk.resolve_left hji;have h1: ¬(j:Int)<(i:Int):=by omega
    go_wp2;go_roundw
    case rel=>exact ⟨j+1,by omega,by go_num,G0,by first|rfl|trivial⟩
    case measure=>simp [intOf];omega
  ·rw [Yb hsk] at j0;have l1:=Za (show swpF i rows=rows.map (swpRow i j) from c0.o.trans (by rw [j0]));have h1: ¬(j:Int)<(i:Int):=by omega
   have h2:(c==0)=false:=by simp;omega
   have L0:=Za (show Mx wr o bs (swpTo i j rows 0) by rw [swpTo_zero];exact HM.o);clear j0 hc c0 hsk;go_wp2
   go_loopw [31] (fun kv w2=> ∃k:Nat,k<=n/\kv= .int .i64 (k:Int)/\Aside0 (Mx w2 o bs (swpTo i j rows k))/\Aside0 (Fd w2 g wb (fpoly wb) S)/\Aside0 (BS W w2 g S0)/\Aside0 (w2.heap[fb]?=some (.cells #[.pointer (some ⟨g,0,none⟩), .slice (some ⟨o,0,none⟩) n co] 146 (0,0)))) (fun kv _=>n - (intOf kv).toNat)
   case atStart=>exact ⟨0,Nat.zero_le _,rfl,L0,HF,HB,d0⟩
   clear L0 HF HB d0 HM r0 hoi hcj;obtain ⟨w2,rfl⟩: ∃w2,w2=wr:=⟨_,rfl⟩;obtain ⟨k,hk,rfl,HM,HF,HB,d0⟩:=hrel;by_cases T0:k<n
   ·obtain ⟨x,hx⟩: ∃x,rows[k]?=some x:=⟨_,Zf (by have:=HN.o;omega)⟩;have hat:=swpTo_at i j rows k x hx;obtain ⟨⟨bk,ck⟩,hbk⟩: ∃q,bs[k]?=some q:=⟨_,Zf (by have h1:=HM.o.len;have h2:=(Zk hat).1;omega)⟩;have hxl:=HL.o x (Zo hx);obtain ⟨y,hy⟩: ∃y,x[j]?=some y:=⟨_,Zf (by omega)⟩;obtain ⟨z,hz⟩: ∃z,x[i]?=some z:=⟨_,Zf (by omega)⟩;have hok:w2.cell? ⟨o,k,none⟩=some (.slice (some ⟨bk,0,none⟩) L ck):=by rw [HM.o.cCz hbk hat,hxl]
    have hcy:w2.cell? ⟨bk,j,none⟩=some (.int .i64 y):=HM.o.cUz hbk hat hy;have hcz:w2.cell? ⟨bk,i,none⟩=some (.int .i64 z):=HM.o.cUz hbk hat hz;have hfi:=HM.o.froz_i hbk i;have hfj:=HM.o.froz_i hbk j;obtain ⟨v',W0⟩:=cell?_setCell_some (w:=w2) (p:=⟨bk,i,none⟩) (x:= .int .i64 y) (q:=⟨bk,j,none⟩) (v:= .int .i64 y) hcy;have k1:(0:Int)<=(k:Int):=by omega
    have k2:(k:Int)<(n:Int):=by omega
    have i0:=Za hbk;have HAT:=Za hat;have A0:=Za (show bk<fb by have h1:=HS.o _ (HX.o _ (h0.o _ _ _ hbk));have h2:=w0.o;omega)
    have HST:=Za (show (swpTo i j rows k).set k ((x.set i y).set j z)=swpTo i j rows (k+1) by
     rw [<-swpTo_step i j rows k x hx];unfold swpRow
     rw [Zm,Zm,hy,hz];rfl)
    have hself:((swpTo i j rows k).set k (x.set i y))[k]?=some (x.set i y):=List.getElem?_set_self (Zk hat).1;have R0:=Za hself;clear hx hat hbk hxl hy hz hself
    go_wp2_with fail
    refine ccz (n:=16) (S:=fun w'=>w'.cell? ⟨bk,j,none⟩=some (.int .i64 y)/\w'.cell? ⟨bk,i,none⟩=some (.int .i64 z)) (ds:= [13,15]) (bA 16 0) kr_ rfl rfl ⟨hcy,hcz⟩ (fun hHeld=> ?_);refine pu_ 0 35 1 ?_;refine pu_ 1 36 3 ?_;refine pu_ 2 37 7 ?_;refine pu_ 3 38 15 ?_;refine pu_ 4 39 31 ?_;refine pu_ 5 40 63 ?_;refine pu_ 6 41 127 ?_;refine pu_ 8 43 383 ?_;refine pu_ 9 44 895 ?_;refine pu_ 10 45 1919 ?_;refine tk_ 7 42 2047 hHeld ?_;refine tk_ 11 46 4095 hHeld ?_;refine pu_ 12 47 8191 ?_;refine last_ (i:=13) (N:=none) (bA 16 16383) rfl rfl kr_ (by decide) (fun K hK=> ?_);refine skip_ (w1:= ?_) (by rfl) rfl ?_ ?_;rotate_left
    ·go_simp;rfl
    refine hK.out _ _ ?_;clear hK K;refine pu_ 14 48 32767 ?_;refine last_ (i:=15) (N:=none) (bA 16 65535) rfl rfl kr_ (by decide) (fun K hK=> ?_);refine skip_ (w1:= ?_) (by rfl) rfl ?_ ?_;rotate_left
    ·go_simp;rfl
    refine hK.out _ _ ?_;clear hK K;refine done_ kr_ ?_;have e0:=Za ((HM.o.drew.set (j:=i) i0.o HAT.o y).set (j:=j) i0.o R0.o z);rw [List.set_set,HST.o] at e0;have u0:=Za ((HF.o.drew.set (q:=⟨bk,i,none⟩) (HX.o _ (h0.o _ _ _ i0.o)) (.int .i64 y)).set (q:=⟨bk,j,none⟩) (HX.o _ (h0.o _ _ _ i0.o)) (.int .i64 z));have t0:=Za ((HB.o.drew.set (p:=⟨bk,i,none⟩) (.inl (h0.o _ _ _ i0.o)) (.int .i64 y)).set (p:=⟨bk,j,none⟩) (.inl (h0.o _ _ _ i0.o)) (.int .i64 z));have F0:fb≠bk:=by have:=A0.o;omega
    have a0:=Za (bHz (bHz (c3z d0.o) (show fb≠(⟨bk,i,none⟩:Addr).block from F0) (.int .i64 y)) (show fb≠(⟨bk,j,none⟩:Addr).block from F0) (.int .i64 z));go_wp2;go_roundw
    case rel=>exact ⟨k+1,by omega,by go_num,e0,u0,t0,a0⟩
    case measure=>simp [intOf];omega
   ·obtain rfl:k=n:=by omega
    have U0:=Za (show Mx w2 o bs (swpF i rows) by
     have h:=HM.o
     rw [<-HN.o,swpTo_full, <-l1.o] at h;exact h)
    go_wp2
    go_meet
    case rel=>exact ⟨U0,HF,HB,d0⟩
 ·obtain rfl:j=L:=by omega
  have HE:=Za (show swpF i rows=rows by
   have h:=c0.o;rw [List.drop_of_length_le (by rw [I0.o];exact Zv _),pivJ] at h
   exact h)
  go_wp2
  go_meet
  case rel=>exact ⟨⟨by rw [HE.o];exact HM.o⟩,HF,HB,d0⟩
end Go.Proofs.Xc
end
