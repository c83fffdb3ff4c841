-- Joined texts of this work (wip/tools/bundle.py).
import Derived.Test.YtpdakdcmahlghaaGreatBReconWhich17
set_option maxHeartbeats 8000000
set_option maxRecDepth 100000
set_option linter.unusedVariables false
set_option linter.unusedSimpArgs false
section
namespace Go.Proofs.Xc
open Go.RowKit Go.Proofs.Pw Go.Proofs.Pl Go.Proofs.Pm Tryz
attribute [local go_sem] a7z a8z bgz bhz aVz aWz a9z baz
theorem ffz {wb:Int} (hw:wb=8\/wb=16) (a:Int):0<=ginv wb a/\ginv wb a<fsize wb:=by
 unfold ginv;split
 ·rcases hw with rfl|rfl
  ·exact eiz (.inl rfl) a 254
  ·exact eiz (.inr rfl) a 65534
 ·rcases hw with rfl|rfl<;>decide
theorem cauM_good {wb:Int} (hw:wb=8\/wb=16) (x y:List Int): ∀r,r∈cauM wb x y->Good wb y.length r:=by
 intro r hr;obtain ⟨a, -,rfl⟩:=List.mem_map.1 hr;refine ⟨by simp,fun z hz=> ?_⟩;obtain ⟨b, -,rfl⟩:=List.mem_map.1 hz;exact ffz hw _
theorem eCz {wb:Int} {L:Nat} {r:List Int} (h:Good wb L r) (j:Nat) {x:Int} (hx:0<=x/\x<fsize wb):Good wb L (r.set j x):=by
 refine ⟨by rw [List.length_set];exact h.1,fun y hy=> ?_⟩;rcases List.mem_or_eq_of_mem_set hy with h1|rfl
 ·exact h.2 y h1
 ·exact hx
theorem getD_good {wb:Int} (hw:wb=8\/wb=16) {L:Nat} {r:List Int} (h:Good wb L r) (j:Nat):0<=r.getD j 0/\r.getD j 0<fsize wb:=by
 rw [Zm]
 cases e:r[j]? with
 |none=>rcases hw with rfl|rfl<;>decide
 |some x=>exact h.2 x (Zo e)
theorem dotF_range {wb:Int} (hw:wb=8\/wb=16): ∀(a b:List Int) (s:Int),(0<=s/\s<fsize wb)->0<=dotF wb a b s/\dotF wb a b s<fsize wb
 | [],_,s,h=>by unfold dotF;exact h
 |_::_, [],s,h=>by unfold dotF;exact h
 |x::a,y::b,s,h=>by unfold dotF;exact dotF_range hw a b _ (eQz hw h (bIz hw _ _))
theorem sysM_good (k m:Nat): ∀r,r∈sysM 8 k m->Good 8 k r:=by
 intro r hr;unfold sysM mulF at hr;obtain ⟨row, -,rfl⟩:=List.mem_map.1 hr;refine ⟨by simp [transp],fun z hz=> ?_⟩;obtain ⟨a0, -,rfl⟩:=List.mem_map.1 hz;exact dotF_range (.inl rfl) _ _ 0 (by decide)
section
variable {wb : Int} (hw : wb = 8 \/ wb = 16) {L : Nat}
include hw
theorem swpF_good {i:Nat} {rows:List (List Int)} (h: ∀r,r∈rows->Good wb L r): ∀r,r∈swpF i rows->Good wb L r:=by
 unfold swpF;split
 ·exact h
 ·intro r hr;obtain ⟨q,hq,rfl⟩:=List.mem_map.1 hr;exact eCz (eCz (h q hq) _ (getD_good hw (h q hq) _)) _ (getD_good hw (h q hq) _)
theorem sclF_good {c:Int} {f j:Nat} {rows:List (List Int)} (h: ∀r,r∈rows->Good wb L r): ∀r,r∈sclF wb c f j rows->Good wb L r:=by
 intro r hr;unfold sclF sclTo at hr;rcases List.mem_append.1 hr with hr|hr
 ·exact h r (List.mem_of_mem_take hr)
 ·rcases List.mem_append.1 hr with hr|hr
  ·obtain ⟨q,hq,rfl⟩:=List.mem_map.1 hr;exact eCz (h q (List.mem_of_mem_drop (List.mem_of_mem_take hq))) _ (bIz hw _ _)
  ·exact h r (List.mem_of_mem_drop (List.mem_of_mem_drop hr))
theorem cutF_good {i:Nat} : ∀(cs:List Int) (j:Nat) (rows:List (List Int)),(∀r,r∈rows->Good wb L r)-> ∀r,r∈cutF wb i cs j rows->Good wb L r
 | [],_,_,h=>h
 |c::cs,j,rows,h=>by
  unfold cutF;refine cutF_good cs (j+1) _ ?_;unfold cutCol;split
  ·exact h
  ·intro r hr;obtain ⟨q,hq,rfl⟩:=List.mem_map.1 hr;exact eCz (h q hq) _ (eQz hw (getD_good hw (h q hq) _) (bIz hw _ _))
theorem stepsF_good {rows:List (List Int)} (h: ∀r,r∈rows->Good wb L r): ∀i, ∀r,r∈stepsF wb i rows->Good wb L r
 |0=>h
 |i+1=>by
  unfold stepsF stepF;exact cutF_good hw _ _ _ (sclF_good hw (swpF_good hw (stepsF_good h i)))
theorem colsF_good {k:Nat} {rows:List (List Int)} (h: ∀r,r∈rows->Good wb L r): ∀j, ∀r,r∈colsF wb k j rows->Good wb L r
 |0=>h
 |j+1=>by
  unfold colsF;exact sclF_good hw (colsF_good h j)
end
theorem jvM_good {wb:Int} (hw:wb=8\/wb=16) (k m:Nat) (h1:1<=k) (h2:1<=m):(∀r,r∈jvM wb k m->Good wb k r)/\(jvM wb k m).length=m:=by
 have he: ∀r,r∈extM wb k m->Good wb k r:=by
  intro r hr;unfold extM at hr;rcases List.mem_append.1 hr with hr|hr
  ·exact fez _ (fun i j=>eiz hw _ _) _ _ r hr
  ·rw [List.mem_singleton.1 hr];unfold lastU;refine eCz ⟨by simp,fun x hx=> ?_⟩ _ (by rcases hw with rfl|rfl<;>decide);rw [(List.mem_replicate.1 hx).2];rcases hw with rfl|rfl<;>decide
 have hc:=colsF_good hw (k:=k) (stepsF_good hw he k) k
 have hl:(colsF wb k k (stepsF wb k (extM wb k m))).length=k+m:=by
  rw [(fdz (wb:=wb) (k:=k) (edz (wb:=wb) (eSz wb k m h1 h2).1 k).1 k).2,(edz (wb:=wb) (eSz wb k m h1 h2).1 k).2,(eSz wb k m h1 h2).2]
 unfold jvM;generalize colsF wb k k (stepsF wb k (extM wb k m))=R at hc hl;refine ⟨fun r hr=> ?_,by simp [hl];omega⟩;rcases List.mem_append.1 hr with hr|hr
 ·exact hc r (List.mem_of_mem_drop (List.mem_of_mem_take hr))
 ·obtain ⟨q,hq,rfl⟩:=List.mem_map.1 hr;have hg:=hc q (List.mem_of_mem_drop (List.mem_of_mem_drop hq));refine ⟨by unfold rowInv;rw [List.length_map];exact hg.1,fun x hx=> ?_⟩;obtain ⟨y, -,rfl⟩:=List.mem_map.1 hx;exact bIz hw _ _
theorem cZz (p:Int) (k m:Nat) (h1:1<=k) (h2:1<=m) (h3:k<=8) (h4:m<=4):(∀r,r∈parM p k m->Good (pbits p) k r)/\(parM p k m).length=m:=by
 unfold parM pbits;by_cases e1:p=1
 ·subst e1;exact jvM_good (.inl rfl) k m h1 h2
 ·rw [Yb e1];by_cases e2:p=2
  ·rw [Ya e2,Ya e2];refine ⟨fun r hr=> ?_,by simp [cauM,runL]⟩;have:=cauM_good (.inr rfl) _ _ r hr;rwa [bKz] at this
  ·rw [Yb e2,Yb e2];by_cases e3:p=3
   ·rw [Ya e3];exact ⟨fez _ (fun i j=>eiz (.inl rfl) _ _) m k,by simp [isalM,madeF]⟩
   ·rw [Yb e3];by_cases e4:p=4
    ·rw [Ya e4];refine ⟨fun r hr=> ?_,by simp [cauM,runL]⟩;have:=cauM_good (.inl rfl) _ _ r hr;rwa [bKz] at this
    ·rw [Yb e4];exact ⟨fun r hr=>sysM_good k m r (List.mem_of_mem_drop hr),by simp [sysM,mulF,rawM,madeF]⟩
end Go.Proofs.Xc
end
section
namespace Go.Proofs.Xc
open Go.RowKit Go.Proofs.Pw Go.Proofs.Pl Go.Proofs.Pm Tryz
attribute [local go_sem] a7z a8z bgz bhz aVz aWz a9z baz
theorem bZz {p k m:Int} (h:avz.f p k m=some true):1<=p/\p<=6/\1<=k/\k<=8/\1<=m/\m<=4:=by
 unfold avz.f at h;by_cases hp:1<=p/\p<=6
 ·obtain ⟨h1,h2⟩:=hp;have:p=1\/p=2\/p=3\/p=4\/p=5\/p=6:=by omega
  rcases this with rfl|rfl|rfl|rfl|rfl|rfl
  all_goals
   simp only [bnz.f] at h;by_cases c1:k>=1
   ·by_cases c2:k<=8
    ·by_cases c3:m>=1
     ·simp [c1,c2,c3] at h;omega
     ·simp [c1,c2,c3] at h
    ·simp [c1,c2] at h
   ·simp [c1] at h
 ·have : bnz.f p = some (ByteArray.empty, 0, 0, 0, 0, false) := by
   unfold bnz.f;simp only [not_and] at hp
   repeat (first|rw [Yb (by omega)] |rfl)
  rw [this] at h;simp at h
theorem may_some (p k m:Int): ∃b,avz.f p k m=some b:=by
 unfold avz.f
 obtain ⟨x,hx⟩: ∃x,bnz.f p=some x:=by
  unfold bnz.f
  repeat' split
  all_goals exact ⟨_,rfl⟩
 rw [hx];simp only [Zl]
 repeat' split
 all_goals exact ⟨_,rfl⟩
theorem c5z.ok (p k m:Int) (W:World) (h:avz.f p k m=some true):
  Calls prog 44 #[.agg #[.int .i64 p, .int .i64 k, .int .i64 m]] W (ParRes (parM p k.toNat m.toNat) m.toNat W):=by
 obtain ⟨p1,p2,k1,k2,m1,m2⟩:=bZz h;obtain ⟨k,rfl⟩:=Int.eq_ofNat_of_zero_le (show 0<=k by omega);obtain ⟨m,rfl⟩:=Int.eq_ofNat_of_zero_le (show 0<=m by omega);simp only [Zu];have:p=1\/p=2\/p=3\/p=4\/p=5\/p=6:=by omega
 rcases this with rfl|rfl|rfl|rfl|rfl|rfl
 ·exact pway1 k m W (by omega) (by omega) (by omega) (by omega) h
 ·exact pway2 k m W (by omega) (by omega) (by omega) (by omega) h
 ·exact pway3 k m W (by omega) (by omega) (by omega) (by omega) h
 ·exact pway4 k m W (by omega) (by omega) (by omega) (by omega) h
 ·exact pway5 k m W (by omega) (by omega) (by omega) (by omega) h
 ·exact pway6 k m W (by omega) (by omega) (by omega) (by omega) h
theorem c5z.no (p k m:Int) (W:World) (h:avz.f p k m=some false):
  Calls prog 44 #[.agg #[.int .i64 p, .int .i64 k, .int .i64 m]] W fun e w'=>e= .returned (.tuple #[.slice none 0 0, .int .i64 1])/\Below W.heap.size W w':=by
 have HM:=Za h;have HB:=Za (show Below W.heap.size W (W.alloc (.cells #[.int .i64 p, .int .i64 k, .int .i64 m] 23)) from aoz (Zw _ _) _);have hu:=underlying23;clear h;go_enter func44,ntmps44
 go_wp2_with fail
 refine (avz.calls p k m false _ HM.o).mono ?_;rintro e w2 ⟨rfl,a0⟩;have b0:=Za (HB.o.trans (a0.mono HB.o.size));clear a0;go_wp2;go_ret2;exact ⟨rfl,b0.o⟩
def byteF (wb a:Int):List Int:=if wb=8 then [a % 256] else [a % 256,a / 256 % 256]
def bytesF (wb:Int) (l:List Int):List Int:=l.flatMap (byteF wb)
theorem bytesF_take (wb:Int) (l:List Int) (k:Nat) (a:Int) (h:l[k]?=some a):bytesF wb (l.take (k+1))=bytesF wb (l.take k)++byteF wb a:=by
 unfold bytesF;rw [List.take_add_one,h,List.flatMap_append];simp
theorem fqz (wb:Int): ∀l:List Int,(bytesF wb l).length<=2*l.length
 | [] =>by simp [bytesF]
 |a::l=>by
  have h1:=fqz wb l;have h2:(byteF wb a).length<=2:=by unfold byteF;split<;>simp
  have h3:bytesF wb (a::l)=byteF wb a++bytesF wb l:=by unfold bytesF;rw [List.flatMap_cons]
  rw [h3,List.length_append,List.length_cons];omega
theorem rBytes.calls (g:Nat) (wb p:Int) (S:Nat->Prop) (A:Option Addr) (c:Nat) (l:List Int) (W:World) (hw:wb=8\/wb=16) (hF:Fd W g wb p S) (hl:Kd.C (Kd.int .i64) W A l.length l) (hlen:l.length<=1000000) (hin: ∀a,a∈l->0<=a/\a<fsize wb):
  Calls prog 104 #[.pointer (some ⟨g,0,none⟩), .slice A l.length c] W fun e w'=> ∃v,e= .returned (.tuple #[v, .int .i64 0])/\(Kd.int .u8).R 5 w' W.heap.size (fun _=>True) v (bytesF wb l)/\Below W.heap.size W w':=by
 have HF:=Za hF;have HW:=Za hw;have HL:=Za hl;have r0:=Za hin;obtain ⟨n,hn⟩: ∃n,l.length=n:=⟨_,rfl⟩;have HLEN:=Za hn;rw [hn] at hlen HL|-;clear hF hw hl hin hn;go_enter func104,ntmps104;go_wp2
 go_loopw [6,13] (fun v iv wr=> ∃k:Nat,k<=n/\iv= .int .i64 (k:Int)/\Aside0 ((Kd.int .u8).R 5 wr W.heap.size (fun _=>True) v (bytesF wb (l.take k)))/\Aside0 (Below W.heap.size W wr)) (fun _ iv _=>n - (intOf iv).toNat)
 case atStart=>exact ⟨0,Nat.zero_le _,rfl,⟨Kd.R_nil _ _ _ _ _⟩,⟨Zw _ _⟩⟩
 obtain ⟨w3,rfl⟩: ∃w3,w3=wr:=⟨_,rfl⟩;obtain ⟨k,hk,rfl,HR,HB⟩:=hrel;by_cases hlt:k<n
 ·obtain ⟨a,ha⟩: ∃x,l[k]?=some x:=⟨_,Zf (by have:=HLEN.o;omega)⟩;obtain ⟨ad,rfl,v0⟩:=cKz (Kd.aMz (HLEN.o.symm▸HL.o) HB.o) k a ha;have hr:=r0.o a (Zo ha);have HT:=Za (bytesF_take wb l k a ha)
  have d0:=Za (show (bytesF wb (l.take k)).length<=3000000 by
   have h1:=fqz wb (l.take k);have h2:=List.length_take_le k l
   omega)
  have u0:=hr.1
  have t0:a<65536:=by have:=hr.2;rcases HW.o with rfl|rfl<;>simp [fsize] at this<;>omega
  have HI:=Za (show inF wb a=true by unfold inF;rw [Zd hr.1,Zd hr.2];rfl);have f0:=Za (rin.calls g wb p a S w3 HW.o (HF.o.below HB.o));rw [HI.o] at f0;have o0:=Za (fun w' (h:Below W.heap.size W w')=>gf_Bits.calls g wb p S w' (HF.o.below h));have HZ:=Za (show W.heap.size<=w3.heap.size from HB.o.size);generalize bytesF wb (l.take k)=pre at HR HT d0;clear ha hr
  go_wp2_with fail
  refine f0.o.mono ?_;rintro e w4 ⟨rfl,m4,rfl⟩;have h0:=Za (Kd.dxz HR.o m4);have g0:=Za (a2z HB.o m4);have e0:=Za (show W.heap.size<=(w3.drewN m4).heap.size from HZ.o);generalize w3.drewN m4=w4 at h0 g0 e0|-;clear f0;have e1:0<=a % 256:=by omega
  have e2:0<=a / 256:=by omega
  have k0:=Za (show byteF 8 a= [a % 256] /\byteF 16 a= [a % 256] ++ [a / 256] from ⟨by simp [byteF],by simp [byteF];omega⟩);have l0:=Za (show (pre++ [a % 256]).length<=3000001 by have:=d0.o;simp;omega);rcases HW.o with rfl|rfl
  ·rw [k0.o.1] at HT
   go_wp2_with ((with_reducible refine amz (b:= .append) (xs:= #[.tmp 21, .tmp 24]) rfl ?_);go_must (at_builtin;refine Kd.brz (Kd.int .u8) (w0:=w4) W.heap.size rfl (.tmp 21) (.tmp 24) 34 5 (.int .u8 0) 1 rfl underlying34 kr_ rfl (by decide) (by decide) _ _ (a % 256) [.int .u8 (a % 256)] (fun _=>True) (fun _=>False) rfl rfl rfl (fun _ h=>h.elim) (fun _ _=>trivial) h0.o (Zw _ _) e0.o (by have:=d0.o;omega) ?_);intro v5 w5 ho hb hg hat;have c0:=Za ho;have b0:=Za hb;clear ho hb hg hat;skip)
   have a0:=Za (g0.o.trans b0.o)
   go_wp2_with fail
   refine (o0.o w5 a0.o).mono ?_;rintro e w7 ⟨rfl,m7,rfl⟩;go_wp2;go_roundw
   case rel=>exact ⟨k+1,by omega,by go_num,⟨by rw [HT.o];exact Kd.dxz c0.o m7⟩,⟨a2z a0.o m7⟩⟩
   case measure=>simp [intOf];omega
  ·rw [k0.o.2, <-List.append_assoc] at HT
   go_wp2_with ((with_reducible refine amz (b:= .append) (xs:= #[.tmp 21, .tmp 24]) rfl ?_);go_must (at_builtin;refine Kd.brz (Kd.int .u8) (w0:=w4) W.heap.size rfl (.tmp 21) (.tmp 24) 34 5 (.int .u8 0) 1 rfl underlying34 kr_ rfl (by decide) (by decide) _ _ (a % 256) [.int .u8 (a % 256)] (fun _=>True) (fun _=>False) rfl rfl rfl (fun _ h=>h.elim) (fun _ _=>trivial) h0.o (Zw _ _) e0.o (by have:=d0.o;omega) ?_);intro v5 w5 ho hb hg hat;have c0:=Za ho;have b0:=Za hb;clear ho hb hg hat;skip)
   have a0:=Za (g0.o.trans b0.o)
   go_wp2_with fail
   refine (o0.o w5 a0.o).mono ?_;rintro e w7 ⟨rfl,m7,rfl⟩;have i0:=Za (Kd.dxz c0.o m7);have j0:=Za (a2z a0.o m7);have n0:=Za (show W.heap.size<=(w5.drewN m7).heap.size from a0.o.size);generalize w5.drewN m7=w8 at i0 j0 n0|-;generalize pre++ [a % 256] =pre2 at i0 l0 HT;clear c0 b0
   go_wp2_with ((with_reducible refine amz (b:= .append) (xs:= #[.tmp 29, .tmp 33]) rfl ?_);go_must (at_builtin;refine Kd.brz (Kd.int .u8) (w0:=w8) W.heap.size rfl (.tmp 29) (.tmp 33) 34 5 (.int .u8 0) 1 rfl underlying34 kr_ rfl (by decide) (by decide) _ _ (a / 256) [.int .u8 (a / 256)] (fun _=>True) (fun _=>False) rfl rfl rfl (fun _ h=>h.elim) (fun _ _=>trivial) i0.o (Zw _ _) n0.o (by have:=l0.o;omega) ?_);intro v9 w9 ho hb hg hat;have q0:=Za ho;have p0:=Za hb;clear ho hb hg hat;skip)
   go_roundw
   case rel=>exact ⟨k+1,by omega,by go_num,⟨by rw [HT.o];exact q0.o⟩,⟨j0.o.trans p0.o⟩⟩
   case measure=>simp [intOf];omega
 ·obtain rfl:k=n:=by omega
  have HE:=Za (show l.take k=l from List.take_of_length_le (by have:=HLEN.o;omega));rw [HE.o] at HR;go_wp2;go_ret2;exact ⟨_,rfl,HR.o,HB.o⟩
def mapTo (f:Int->Int) (row:List Int) (j:Nat):List Int:=(row.take j).map f++row.drop j
theorem mapTo_zero (f:Int->Int) (row:List Int):mapTo f row 0=row:=by simp [mapTo]
theorem mapTo_full (f:Int->Int) (row:List Int):mapTo f row row.length=row.map f:=by simp [mapTo]
theorem mapTo_at (f:Int->Int) (row:List Int) (j:Nat) (x:Int) (h:row[j]?=some x):(mapTo f row j)[j]?=some x:=by
 have hi:=(Zk h).1;unfold mapTo;rw [List.getElem?_append_right (by simp;omega)];simp only [List.length_map,List.length_take,List.getElem?_drop];rw [show j+(j - min j row.length)=j by omega];exact h
theorem mapTo_step (f:Int->Int) (row:List Int) (j:Nat) (x:Int) (h:row[j]?=some x):(mapTo f row j).set j (f x)=mapTo f row (j+1):=by
 obtain ⟨hi,e⟩:=Zk h;unfold mapTo;rw [List.set_append_right _ _ (by simp;omega),List.length_map,List.length_take,show j - min j row.length=0 by omega,List.drop_eq_getElem_cons hi,Zh,List.take_add_one,h,List.map_append,List.append_assoc];rfl
def mulB (wb c:Int) (b:List Int):List Int:=bytesF wb ((wordsF wb b).map (gmul wb c))
theorem frz (wb:Int) (b:List Int):(wordsF wb b).length=b.length / wN wb:=eoz _ _ _
theorem rWords.ok (g:Nat) (wb p:Int) (S:Nat->Prop) (A:Option Addr) (c:Nat) (b:List Int) (W:World) (hw:wb=8\/wb=16) (hF:Fd W g wb p S) (hb:Kd.C (Kd.int .u8) W A b.length b) (hl:b.length<=1000000) (hd:b.length % wN wb=0):
  Calls prog 101 #[.pointer (some ⟨g,0,none⟩), .slice A b.length c] W (WordsOk W (wordsF wb b)):=by
 rcases hw with rfl|rfl
 ·exact rWords.ok8 g p S A c b W hF hb hl
 ·exact rWords.ok16 g p S A c b W hF hb hl hd
theorem rMul.badw (g:Nat) (wb p c:Int) (S:Nat->Prop) (A:Option Addr) (cc:Nat) (b:List Int) (W:World) (hw:wb=8\/wb=16) (hF:Fd W g wb p S) (hl:b.length<=1000000) (hd:b.length % wN wb≠0):
  Calls prog 69 #[.pointer (some ⟨g,0,none⟩), .int .i64 c, .slice A b.length cc] W fun e w'=>e= .returned (.tuple #[.slice none 0 0, .int .i64 1])/\Drawn0 W w':=by
 have HC:=Za (rWords.bad g wb p S A cc b W hw hF hl hd);clear hw hF hl hd;go_enter func69,ntmps69
 go_wp2_with fail
 refine HC.o.mono ?_;rintro e w1 ⟨rfl,m1,rfl⟩;go_wp2;go_ret2;exact ⟨rfl,Drawn0.step (Drawn0.refl _) _⟩
theorem rMul.ok (g:Nat) (wb c:Int) (S:Nat->Prop) (A:Option Addr) (cc:Nat) (b:List Int) (W:World) (hw:wb=8\/wb=16) (hF:Fd W g wb (fpoly wb) S) (hS: ∀k,S k->k<W.heap.size) (hb:Kd.C (Kd.int .u8) W A b.length b) (hl:b.length<=1000000) (hd:b.length % wN wb=0) (hc:inF wb c=true):
  Calls prog 69 #[.pointer (some ⟨g,0,none⟩), .int .i64 c, .slice A b.length cc] W fun e w'=> ∃v,e= .returned (.tuple #[v, .int .i64 0])/\(Kd.int .u8).R 5 w' W.heap.size (fun _=>True) v (mulB wb c b)/\Fd w' g wb (fpoly wb) S/\BB W w' g:=by
 have b0:=Za (rWords.ok g wb (fpoly wb) S A cc b W hw hF hb hl hd);have f0:=Za hF;have HW:=Za hw;have HS:=Za hS;have u0:=Za hc
 have hwl:(wordsF wb b).length<=1000000:=by
  rw [frz];exact Zt (Nat.div_le_self _ _) hl
 obtain ⟨res,hres⟩: ∃r,mulB wb c b=r:=⟨_,rfl⟩;have a0:=Za hres;rw [hres];unfold mulB at a0;generalize wordsF wb b=l at b0 hwl a0;generalize b.length=bl at b0|-;clear hF hw hS hc hres hb hl hd;obtain ⟨n,hn⟩: ∃n,l.length=n:=⟨_,rfl⟩;have HLEN:=Za hn;rw [hn] at hwl;clear hn;go_enter func69,ntmps69
 go_wp2_with fail
 refine b0.o.mono ?_;rintro e w1 ⟨lb,rfl,q1,q2,q3⟩;rw [HLEN.o];have l0:=Za (show w1.heap[lb]?=some (.cells (nums .i64 (mapTo (gmul wb c) l 0)).toArray 3 (0,0)) by rw [mapTo_zero];exact q1);have p0:=Za q2;have n0:=Za (BB.of_below q3 g);have d0:=Za (show Fd w1 g wb (fpoly wb) (fun q=>S q\/q=lb) from ((f0.o.more).below q3).thin (fun q _ hs=>hs.elim .inl (fun e=> .inr (by omega))));have v0:=Za (show lb≠g by have:=f0.o.lt;omega);have i0:=Za (rin.calls g wb (fpoly wb) c (fun q=>S q\/q=lb) w1 HW.o d0.o);rw [u0.o] at i0;clear q1 q2 q3 b0 f0
 go_wp2_with fail
 refine i0.o.mono ?_;rintro e w2 ⟨rfl,m2,rfl⟩;have e0:=Za (show (w1.drewN m2).heap[lb]?=some (.cells (nums .i64 (mapTo (gmul wb c) l 0)).toArray 3 (0,0)) from l0.o);have h0:=Za (n0.o.drewN m2);have j0:=Za (d0.o.drewN m2);generalize w1.drewN m2=w2 at e0 h0 j0|-;clear l0 n0 d0 i0;go_wp2
 go_loopw [28] (fun iv wr=> ∃k:Nat,k<=n/\iv= .int .i64 (k:Int)/\Aside0 (wr.heap[lb]?=some (.cells (nums .i64 (mapTo (gmul wb c) l k)).toArray 3 (0,0)))/\Aside0 (BB W wr g)/\Aside0 (Fd wr g wb (fpoly wb) (fun q=>S q\/q=lb))) (fun iv _=>n - (intOf iv).toNat)
 case atStart=>exact ⟨0,Nat.zero_le _,rfl,e0,h0,j0⟩
 clear e0 h0 j0;obtain ⟨w3,rfl⟩: ∃w3,w3=wr:=⟨_,rfl⟩;obtain ⟨k,hk,rfl,HX,HB,HF⟩:=hrel;by_cases hlt:k<n
 ·obtain ⟨x,hx⟩: ∃x,l[k]?=some x:=⟨_,Zf (by have:=HLEN.o;omega)⟩;have hcx:w3.cell? ⟨lb,k,none⟩=some (.int .i64 x):=(abz HX.o k).trans (d8z .i64 _ _ _ (mapTo_at _ _ _ _ hx));have HST:=Za (mapTo_step (gmul wb c) l k x hx)
  have o0:=Za (cLz.calls g (fun q=>S q\/q=lb) wb c x w3 HW.o HF.o (fun q hq=>by
   rcases hq with hq|rfl
   ·exact Zp (HS.o q hq) HB.o.size
   ·exact aUz HX.o))
  have HXB:=Za (show∀w4,BB w3 w4 g->w4.heap[lb]?=some (.cells (nums .i64 (mapTo (gmul wb c) l k)).toArray 3 (0,0)) from fun w4 h=>(h.block lb (aUz HX.o) v0.o).trans HX.o);have HAT:=Za (mapTo_at (gmul wb c) l k x hx);have k1:(0:Int)<=(k:Int):=by omega
  have k2:(k:Int)<(n:Int):=by omega
  clear hx
  go_wp2_with fail
  refine o0.o.mono ?_;rintro e w4 ⟨rfl,f1,f2⟩;have k0:=Za (HXB.o w4 f2);have y0:w4.cell? ⟨lb,k,none⟩=some (.int .i64 x):=(abz k0.o k).trans (d8z .i64 _ _ _ HAT.o);have w0:=bbz k0.o k;have t0:=Za (dPz k0.o k (gmul wb c x) HST.o);have q0:=Za ((HB.o.trans f2).new p0.o k (.int .i64 (gmul wb c x)));have r0:=Za (f1.set (q:=⟨lb,k,none⟩) (.inr rfl) (.int .i64 (gmul wb c x)));clear f1 f2 hcx o0;go_wp2;go_roundw
  case rel=>exact ⟨k+1,by omega,by go_num,t0,q0,r0⟩
  case measure=>simp [intOf];omega
 ·obtain rfl:k=n:=by omega
  have HE:=Za (show mapTo (gmul wb c) l k=l.map (gmul wb c) by rw [<-HLEN.o];exact mapTo_full _ _);rw [HE.o] at HX;have hC:=C_nums HX.o (by simp;have:=HLEN.o;omega);rw [List.length_map,HLEN.o] at hC
  have g0:=rBytes.calls g wb (fpoly wb) (fun q=>S q\/q=lb) (some ⟨lb,0,none⟩) k (l.map (gmul wb c)) w3 HW.o HF.o (by rw [List.length_map,HLEN.o];exact hC) (by rw [List.length_map,HLEN.o];omega) (fun a ha=>by
   obtain ⟨y, -,rfl⟩:=List.mem_map.1 ha
   exact bIz HW.o _ _)
  rw [a0.o,List.length_map,HLEN.o] at g0;have c0:=Za g0;clear hC g0
  go_wp2_with fail
  refine c0.o.mono ?_;rintro e w4 ⟨v,rfl,r1,r2⟩;have R1:=Za (Kd.bCz r1 HB.o.size);have R2:=Za (HF.o.below r2);have R3:=Za (HB.o.trans (BB.of_below r2 g));clear r1 r2;go_wp2;go_ret2;exact ⟨_,rfl,R1.o,R2.o.thin (fun q _ h=> .inl h),R3.o⟩
def evB (wb:Int) (b:List Int):Bool:=b.length % wN wb==0
def dotB (K:Nat) (wb:Int) (c:List Int) (rows:List (List Int)):Option (List Int×Int):=if rows.all (evB wb)=true then aLz.f K (List.zipWith (mulB wb) c rows) else some ([],1)
theorem S_joinK {k:IntKind} {wq w2:World} {g B e t gt:Nat} {a0:Array Value} {u uv:Value} {xs:List (List Int)} {R:List Int} (HO:Kd.S (dM e k) t wq B (fun _=>True) u xs) (hg:wq.heap[g]?=some (.cells a0 gt (0,0))) (ht: ∀q,q∈t::(dM e k).E->q≠gt) (hb:BB wq w2 g) (hR:(Kd.int k).R e w2 wq.heap.size (fun _=>True) uv R) (hB:B<=wq.heap.size):
    Kd.S (dM e k) t w2 B (fun k'=>True/\ ¬wq.heap.size<=k') u xs/\(dM e k).M w2 B (fun k'=>wq.heap.size<=k') R [uv] /\(∀k',wq.heap.size<=k'->True/\some k'≠u.ownBlock):=
  ⟨Kd.cPz (Kd.S_move (Kd.bDz (Kd.S_types HO hg ht)) (fun q hq=>hb.block q hq.2.2.1 hq.1.2)) (fun q hq=>⟨trivial,by have:=hq.2.2.1;omega⟩),
   ⟨_,rfl,Kd.bCz (Kd.aKz (Kd.bUz hR) (fun q hq=>hq.2.1)) hB⟩,
   fun q hq=>⟨trivial,fun e=>by have:=Kd.R_lt (Kd.S_R HO) q e.symm;omega⟩⟩
theorem BB.then_below {W a b:World} {g:Nat} (h:BB W a g) (k:Below W.heap.size a b):BB W b g:=
 ⟨k.os.trans h.os,k.tape.trans h.tape,k.output.trans h.output,Zt h.size k.size,fun i hi hg=>(k.block i hi).trans (h.block i hi hg)⟩
theorem Fd.grown {W W1:World} {g:Nat} {wb p:Int} {S:Nat->Prop} {v:Value} {t:Nat} (h:Fd W g wb p S) (hg:W.grownBy W1 v.ownBlock) (ht: ∀k,v.ownBlock=some k-> ∃cells,W.heap[k]?=some (.cells cells t (0,0))) (h1:t≠172) (h2:t≠3):Fd W1 g wb p S:=by
 have key: ∀(k:Nat) (cs:Array Value) (q:Nat),q≠t->W.heap[k]?=some (.cells cs q (0,0))->W1.heap[k]?=some (.cells cs q (0,0)):=fun k cs q hq hk=>(hg.block k (aUz hk) (fun e=>by
  obtain ⟨c2,a0⟩:=ht k e.symm;rw [hk] at a0;injection a0 with a0
  injection a0 with _ a0
  exact hq a0)).trans hk
 obtain ⟨n1,h|⟨e1,e2,a,b,ha,hb,hc,n2,n3⟩⟩:=h
 ·exact ⟨n1, .inl (key _ _ _ (Ne.symm h1) h)⟩
 ·exact ⟨n1, .inr ⟨e1,e2,a,b,key _ _ _ (Ne.symm h1) ha,key _ _ _ (Ne.symm h2) hb,key _ _ _ (Ne.symm h2) hc,n2,n3⟩⟩
theorem fsz {α β γ:Type} (f:α->β->γ) (a:List α) (b:List β) (k:Nat) (x:α) (y:β) (hx:a[k]?=some x) (hy:b[k]?=some y):List.zipWith f (a.take (k+1)) (b.take (k+1))=List.zipWith f (a.take k) (b.take k)++ [f x y] :=by
 have h1:=(Zk hx).1;have h2:=(Zk hy).1;rw [List.take_add_one,List.take_add_one,hx,hy,List.zipWith_append (by simp;omega)];rfl
theorem rDot.calls (g : Nat) (wb : Int) (S : Nat -> Prop) (C A : Option Addr) (cc ca K : Nat) (c : List Int) (rows : List (List Int)) (r1 : List Int) (r2 : Int) (W : World) (hw : wb = 8 \/ wb = 16) (hF : Fd W g wb (fpoly wb) S) (hS : ∀ k, S k -> k < W.heap.size)
  (hc:Kd.F (Kd.int .i64) W (NotG g) C c.length c) (hr:Kd.F (dM 5 .u8) W (NotG g) A rows.length rows) (hin: ∀x,x∈c->inF wb x=true) (hlen:c.length=rows.length) (h0:0<rows.length) (hsz: ∀r,r∈rows->r.length<=1000000) (hn:rows.length<=1000) (h:dotB K wb c rows=some (r1,r2)):
  Calls prog 47 #[.pointer (some ⟨g,0,none⟩), .slice C c.length cc, .slice A rows.length ca] W fun e w'=> ∃v,e= .returned (.tuple #[v, .int .i64 r2])/\(Kd.int .u8).R 5 w' W.heap.size (fun _=>True) v r1/\Fd w' g wb (fpoly wb) S/\BB W w' g:=by
 have o0:=Za hF;have HW:=Za hw;have HS:=Za hS;have HC:=Za hc;have HR:=Za hr;have K0:=Za hin;have D0:=Za hsz;have HH:=Za h;obtain ⟨n,hnn⟩: ∃n,rows.length=n:=⟨_,rfl⟩;have k0:=Za (hlen.trans hnn);have f0:=Za hnn;rw [hlen] at HC|-;rw [hnn] at HC HR hn h0|-;have z1:((n:Int)==0)=false:=by simp;omega
 have z2:((n:Int) !=(n:Int))=false:=by simp
 clear hw hF hS hc hr hin hsz h hlen hnn;go_enter func47,ntmps47;go_wp2
 go_loopw [8,25] (fun v iv wr=> ∃k:Nat,k<=n/\iv= .int .i64 (k:Int)/\Aside0 (Kd.S (dM 5 .u8) 34 wr W.heap.size (fun _=>True) v (List.zipWith (mulB wb) (c.take k) (rows.take k)))/\Aside0 (BB W wr g)/\Aside0 (Fd wr g wb (fpoly wb) S)/\Aside0 ((rows.take k).all (evB wb)=true)) (fun _ iv _=>n - (intOf iv).toNat)
 case atStart=>exact ⟨0,Nat.zero_le _,rfl,⟨Kd.S_nil _ _ _ _ _⟩,⟨BB.refl _ _⟩,o0,⟨rfl⟩⟩
 clear o0 z1 z2;obtain ⟨w3,rfl⟩: ∃w3,w3=wr:=⟨_,rfl⟩;obtain ⟨k,hk,rfl,HO,HB,HF,i0⟩:=hrel;by_cases hlt:k<n
 ·obtain ⟨x,hx⟩: ∃x,c[k]?=some x:=⟨_,Zf (by have:=k0.o;omega)⟩;obtain ⟨b,hb⟩: ∃b,rows[k]?=some b:=⟨_,Zf (by have:=f0.o;omega)⟩;obtain ⟨ad,A',c',rfl,hcb,hlb,q0⟩:=cjz (Kd.F_now (F_bb (f0.o.symm▸HR.o) HB.o)) k b hb;obtain ⟨cd,rfl,hcx⟩:=cKz (Kd.F_now (F_bb (k0.o.symm▸HC.o) HB.o)) k x hx;have p0:=Za q0;have HI:=Za (K0.o x (Zo hx));have u0:=Za (D0.o b (Zo hb));have HZ:=Za (fsz (mulB wb) c rows k x b hx hb);have g0:=Za (show (rows.take (k+1)).all (evB wb)=((rows.take k).all (evB wb)&&evB wb b) by rw [List.take_add_one,hb];simp)
  have e0:=Za (show evB wb b=false->rows.all (evB wb)=false from fun h=>by
   rw [List.all_eq_false]
   exact ⟨b,Zo hb,by rw [h];decide⟩)
  have E0:=Za (show∀q,S q->q<w3.heap.size from fun q hq=>Zp (HS.o q hq) HB.o.size);have k1:(0:Int)<=(k:Int):=by omega
  have k2:(k:Int)<(n:Int):=by omega
  clear hx hb hlb q0;by_cases hev:evB wb b=true
  ·have d0:=Za (rMul.ok g wb x S A' c' b w3 HW.o HF.o E0.o p0.o u0.o (by simpa [evB] using hev) HI.o);have B0:=Za (show (rows.take (k+1)).all (evB wb)=true by rw [g0.o,i0.o,hev];rfl);clear hev
   go_wp2_with fail
   refine d0.o.mono ?_;rintro e w4 ⟨v4,rfl,q1,q2,q3⟩;obtain ⟨M0,a0⟩:=Fd.cells HF.o;have hj:=S_joinK HO.o a0 (by decide) q3 q1 HB.o.size;have t0:=Za (show (List.zipWith (mulB wb) (c.take k) (rows.take k)).length<=1000 by simp;omega);obtain ⟨va,vc,rfl⟩:=Kd.aQz q1;generalize List.zipWith (mulB wb) (c.take k) (rows.take k)=pre at HO hj t0 HZ
   generalize (mulB wb x b).length=nm at *
   generalize mulB wb x b=R at hj HZ;have v0:=Za hj.1;have z0:=Za hj.2.1;have I0:=Za hj.2.2;have L0:=Za (show W.heap.size<=w4.heap.size from Zt HB.o.size q3.size);have C0:=Za (HB.o.trans q3);have F0:=Za q2;have H0:=Za (Kd.bFz hj.1);clear q1 q2 q3 hj a0 d0 p0 hcb hcx HO
   go_wp2_with ((with_reducible refine amz (b:= .append) (xs:= #[.tmp 43, .tmp 45]) rfl ?_);go_must (at_builtin;refine Kd.bLz (dM 5 .u8) (w0:=w4) W.heap.size rfl (.tmp 43) (.tmp 45) 24 34 (.slice none 0 0) 24 rfl underlying24 kr_ rfl (by decide) (by decide) _ _ R [.slice va nm vc] (fun _=>True) (fun k'=>w3.heap.size<=k') rfl rfl z0.o I0.o (fun _ _=>trivial) v0.o (Zw _ _) L0.o (by have:=t0.o;omega) ?_);intro v2 w5 r0 l0 n0 j0;have J0:=Za r0;have A0:=Za l0;have y0:=Za (show w4.grownBy w5 u8.ownBlock from n0);clear r0 l0 n0 j0)
   go_roundw
   case rel=>exact ⟨k+1,by omega,by go_num,⟨by rw [HZ.o];exact J0.o⟩,⟨C0.o.then_below A0.o⟩,⟨F0.o.grown y0.o H0.o (by decide) (by decide)⟩,B0⟩
   case measure=>simp [intOf];omega
  ·have hev':evB wb b=false:=by simpa using hev
   have d0:=Za (rMul.badw g wb (fpoly wb) x S A' c' b w3 HW.o HF.o u0.o (by simpa [evB] using hev'))
   have b0:=Za (show r1= [] /\r2=1 by
    have h:=HH.o;unfold dotB at h;rw [Yb (by rw [e0.o hev'];decide)] at h;simp only [Zx,Zy] at h
    exact ⟨h.1.symm,h.2.symm⟩)
   clear hev hev'
   go_wp2_with fail
   refine d0.o.mono ?_;rintro e w4 ⟨rfl,m4,rfl⟩;go_wp2;go_ret2;refine ⟨.slice none 0 0,?_,?_,HF.o.drewN m4,HB.o.drewN m4⟩
   ·rw [b0.o.2];rfl
   ·rw [b0.o.1];exact Kd.R_nil _ _ _ _ _
 ·obtain rfl:k=n:=by omega
  have e1:c.take k=c:=List.take_of_length_le (by rw [k0.o];exact Zv _);have e2:rows.take k=rows:=List.take_of_length_le (by rw [f0.o];exact Zv _);rw [e1,e2] at HO;rw [e2] at i0;have h:=HH.o;unfold dotB at h;rw [Ya i0.o] at h;have c0:=Za h;generalize List.zipWith (mulB wb) c rows=pr at HO c0;obtain ⟨PA,pc,rfl,hpl,hpc⟩:=Kd.S_reads HO.o;have G0:=Za (aLz.calls K PA pc pr r1 r2 w3 hpc hpl c0.o);clear h e1 e2 hpl hpc
  generalize pr.length=np at *
  go_wp2_with fail
  refine G0.o.mono ?_;rintro e w4 ⟨v,rfl,s1,s2⟩;have R1:=Za (Kd.bCz s1 HB.o.size);have R2:=Za (HF.o.below s2);have R3:=Za (HB.o.trans (BB.of_below s2 g));clear s1 s2;go_wp2;go_ret2;exact ⟨_,rfl,R1.o,R2.o,R3.o⟩
def ayz.l (K:Nat) (wb:Int) (data:List (List Int)):List (List Int)->List (List Int)->Option (List (List Int)×Int)
 | [],acc=>some (acc,0)
 |row::rs,acc=>(dotB K wb row data).bind fun t=>if t.2=0 then ayz.l K wb data rs (acc++ [t.1]) else some ([],1)
def ayz.small (l:List (List Int)):Bool:=decide (l.length<=1000)&&l.all (fun r=>decide (r.length<=1000000))
def ayz.f (k:Nat) (a0_0 a0_1 a0_2:Int) (l1:List (List Int)):Option (List (List Int)×Int):=
 (avz.f a0_0 a0_1 a0_2).bind fun b=>if b=true then (if (l1.length:Int)=a0_1 then (if ayz.small l1=true then ayz.l k (pbits a0_0) l1 (parM a0_0 a0_1.toNat a0_2.toNat) [] else none) else some ([],1)) else some ([],1)
theorem C_F {α:Type} {d:Kd α} (hd:Kd.Heap d) {W:World} {A:Option Addr} {n:Nat} {xs:List α} (h:d.C W A n xs):Kd.F d W (fun k=>k<W.heap.size) A n xs:=fun W' hW=>hd.C (fun k hk=>hW k hk hk) h
theorem codec_Parity1.calls (g bf bd : Nat) (wb : Int) (S : Nat -> Prop) (C A : Option Addr) (cc ca K : Nat) (c : List Int) (rows : List (List Int)) (r1 : List Int) (r2 : Int) (W : World) (hw : wb = 8 \/ wb = 16) (hF : Fd W g wb (fpoly wb) S) (hS : ∀ k, S k -> k < W.heap.size)
  (hbf:W.heap[bf]?=some (.cells #[.pointer (some ⟨g,0,none⟩)] 72 (0,0))) (hbd:W.heap[bd]?=some (.cells #[.slice A rows.length ca] 24 (0,0)))
  (hc:Kd.F (Kd.int .i64) W (NotG g) C c.length c) (hr:Kd.F (dM 5 .u8) W (NotG g) A rows.length rows) (hin: ∀x,x∈c->inF wb x=true) (hlen:c.length=rows.length) (h0:0<rows.length) (hsz: ∀r,r∈rows->r.length<=1000000) (hn:rows.length<=1000) (h:dotB K wb c rows=some (r1,r2)):
  Calls prog 46 #[.slice C c.length cc, .pointer (some ⟨bf,0,none⟩), .pointer (some ⟨bd,0,none⟩)] W fun e w'=> ∃v,e= .returned (.tuple #[v, .int .i64 r2])/\(Kd.int .u8).R 5 w' W.heap.size (fun _=>True) v r1/\Fd w' g wb (fpoly wb) S/\BB W w' g:=by
 have HD:=Za (rDot.calls g wb S C A cc ca K c rows r1 r2 W hw hF hS hc hr hin hlen h0 hsz hn h);have c1:W.cell? ⟨bf,0,none⟩=some (.pointer (some ⟨g,0,none⟩)):=(abz hbf 0).trans rfl;have c2:W.cell? ⟨bd,0,none⟩=some (.slice A rows.length ca):=(abz hbd 0).trans rfl;generalize rows.length=n at HD c2;generalize c.length=m at HD|-;clear hw hF hS hbf hbd hc hr hin hlen h0 hsz hn h;go_enter func46,ntmps46
 go_wp2_with fail
 refine HD.o.mono ?_;rintro e w1 ⟨v,rfl,q1,q2,q3⟩;have Q1:=Za q1;have Q2:=Za q2;have Q3:=Za q3;clear q1 q2 q3;go_wp2;go_ret2;exact ⟨_,rfl,Q1.o,Q2.o,Q3.o⟩
theorem ayz.nomay (p k m:Int) (A:Option Addr) (c:Nat) (l:List (List Int)) (W:World) (h:avz.f p k m=some false):
  Calls prog 19 #[.agg #[.int .i64 p, .int .i64 k, .int .i64 m], .slice A l.length c] W fun e w'=>e= .returned (.tuple #[.slice none 0 0, .int .i64 1])/\Below W.heap.size W w':=by
 have HP:=Za (fun w=>c5z.no p k m w h);have hu:=underlying23;generalize l.length=n;clear h;go_enter func19,ntmps19
 go_wp2_with fail
 refine (HP.o _).mono ?_;rintro e w1 ⟨rfl,hB⟩;have HB:=Za (show Below W.heap.size W w1 from (aoz (aoz (Zw _ _) _) _).trans (hB.mono (by simp;omega)));clear hB;go_wp2;go_ret2;exact ⟨rfl,HB.o⟩
theorem ayz.nolen (p k m:Int) (A:Option Addr) (c:Nat) (l:List (List Int)) (W:World) (h:avz.f p k m=some true) (hl:(l.length:Int)≠k):
  Calls prog 19 #[.agg #[.int .i64 p, .int .i64 k, .int .i64 m], .slice A l.length c] W fun e w'=>e= .returned (.tuple #[.slice none 0 0, .int .i64 1])/\Below W.heap.size W w':=by
 have HP:=Za (fun w=>c5z.ok p k m w h);have hu:=underlying23;generalize l.length=n at hl|-;generalize parM p k.toNat m.toNat=M at HP;have hne:((n:Int) !=k)=true:=by simpa using hl
 have b0:=heap_alloc_new W (.cells #[.int .i64 p, .int .i64 k, .int .i64 m] 23);have a0:=heap_alloc_new (W.alloc (.cells #[.int .i64 p, .int .i64 k, .int .i64 m] 23)) (.cells #[.slice A n c] 24);have hb1':((W.alloc (.cells #[.int .i64 p, .int .i64 k, .int .i64 m] 23)).alloc (.cells #[.slice A n c] 24)).heap[W.heap.size]?=some (.cells #[.int .i64 p, .int .i64 k, .int .i64 m] 23 (0,0)):=aNz b0 (aoz (Zw _ _) _);have c0:=Za hb1';have d0:=Za a0;have HB:=Za (show Below W.heap.size W ((W.alloc (.cells #[.int .i64 p, .int .i64 k, .int .i64 m] 23)).alloc (.cells #[.slice A n c] 24)) from aoz (aoz (Zw _ _) _) _);clear h hl b0 a0 hb1';go_enter func19,ntmps19
 go_wp2_with fail
 generalize (W.alloc (.cells #[.int .i64 p, .int .i64 k, .int .i64 m] 23)).alloc (.cells #[.slice A n c] 24)=w1 at c0 d0 HB|-;refine (HP.o w1).mono ?_;rintro e w2 ⟨B,bc,rfl, -, -,hB⟩;have e0:=Za (HB.o.trans (hB.mono HB.o.size));have c1:w2.cell? ⟨W.heap.size,1,none⟩=some (.int .i64 k):=(abz (aNz c0.o hB) 1).trans rfl
 have c2:w2.cell? ⟨W.heap.size+1,0,none⟩=some (.slice A n c):=by
  have:=(abz (aNz d0.o hB) 0);simp at this;exact this
 clear hB;go_wp2;go_ret2;exact ⟨rfl,e0.o⟩
theorem ayz.go (K : Nat) (p k m : Int) (A : Option Addr) (c : Nat) (l r1:List (List Int)) (r2 : Int) (W : World) (h : avz.f p k m = some true) (hl : (l.length : Int) = k) (hr : Kd.C (dM 5 .u8) W A l.length l) (hsm : ayz.small l = true)
  (hL:ayz.l K (pbits p) l (parM p k.toNat m.toNat) [] =some (r1,r2)):
  Calls prog 19 #[.agg #[.int .i64 p, .int .i64 k, .int .i64 m], .slice A l.length c] W fun e w'=> ∃v,e= .returned (.tuple #[v, .int .i64 r2])/\Kd.S (dM 5 .u8) 34 w' W.heap.size (fun _=>True) v r1/\Below W.heap.size W w':=by
 obtain ⟨p1,p2,k1,k2,m1,m2⟩:=bZz h;have HP:=Za (fun w=>c5z.ok p k m w h);have z0:=Za (dLz.calls p ⟨p1,p2⟩);have P0:=Za (dQz p);have hgd:=cZz p k.toNat m.toNat (by omega) (by omega) (by omega) (by omega)
 have N0:=Za (show l.length<=1000/\ ∀r,r∈l->r.length<=1000000 by
  simp only [ayz.small,Bool.and_eq_true,decide_eq_true_eq,List.all_eq_true] at hsm
  exact hsm)
 have hu:=underlying23;obtain ⟨n,hn⟩: ∃n,l.length=n:=⟨_,rfl⟩;have l0:=Za hn;obtain rfl:k=(n:Int):=by omega
 simp only [Zu] at HP hgd hL;obtain ⟨mm,hmm⟩: ∃mm,m.toNat=mm:=⟨_,rfl⟩;rw [hmm] at HP hgd hL;have v1:mm<=4:=by omega
 have h0:=Za hgd;have HL:=Za hL;have HR:=Za (C_F (Kd.e7z _ (Kd.heap_int _)) hr);rw [hn] at HR|-;generalize parM p n mm=M at HP h0 HL;generalize pbits p=wb at z0 P0 HL h0;have hself:((n:Int) !=(n:Int))=false:=by simp
 have n1:1<=n:=by omega
 have n2:n<=8:=by omega
 have HW:=Za (show W.heap.size=W.heap.size from rfl);have I0:=heap_alloc_new W (.cells #[.int .i64 p, .int .i64 (n:Int), .int .i64 m] 23);have b0:=heap_alloc_new (W.alloc (.cells #[.int .i64 p, .int .i64 (n:Int), .int .i64 m] 23)) (.cells #[.slice A n c] 24);have hb1':((W.alloc (.cells #[.int .i64 p, .int .i64 (n:Int), .int .i64 m] 23)).alloc (.cells #[.slice A n c] 24)).heap[W.heap.size]?=some (.cells #[.int .i64 p, .int .i64 (n:Int), .int .i64 m] 23 (0,0)):=aNz I0 (aoz (Zw _ _) _);have q0:=Za hb1';have v0:=Za (show ((W.alloc (.cells #[.int .i64 p, .int .i64 (n:Int), .int .i64 m] 23)).alloc (.cells #[.slice A n c] 24)).heap[W.heap.size+1]?=some (.cells #[.slice A n c] 24 (0,0)) by simpa using b0);have HB:=Za (show Below W.heap.size W ((W.alloc (.cells #[.int .i64 p, .int .i64 (n:Int), .int .i64 m] 23)).alloc (.cells #[.slice A n c] 24)) from aoz (aoz (Zw _ _) _) _);clear h hl I0 b0 hb1' hgd hL hr hn p1 p2 k1 k2 hmm hsm
 go_enter func19,ntmps19
 go_wp2_with fail
 generalize (W.alloc (.cells #[.int .i64 p, .int .i64 (n:Int), .int .i64 m] 23)).alloc (.cells #[.slice A n c] 24)=w1 at q0 v0 HB|-;refine (HP.o w1).mono ?_;rintro e w2 ⟨B,bc,rfl, -,S0,hB⟩;have f0:=Za (HB.o.trans (hB.mono HB.o.size));have t0:=Za (aNz q0.o hB);have j0:=Za (aNz v0.o hB);have M0:=Za (Kd.cdz (Kd.dVz S0) (fun q hq=>hq.2));have c0:w2.cell? ⟨W.heap.size,0,none⟩=some (.int .i64 p):=(abz t0.o 0).trans rfl;have c1:w2.cell? ⟨W.heap.size,1,none⟩=some (.int .i64 (n:Int)):=(abz t0.o 1).trans rfl;have c2:w2.cell? ⟨W.heap.size+1,0,none⟩=some (.slice A n c):=(abz j0.o 0).trans rfl;have C0:=Za (show M.length=mm from h0.o.2);clear hB S0 HP q0 v0 HB;have y1: ∀(fn:Fn) (first cap:Array Value) (w:World),(Instr.makeFunc fn first cap).run prog w= .ok (.func fn first cap) w:=fun _ _ _ _=>rfl
 go_wp2_with fail
 refine (z0.o w2).mono ?_;rintro e w3 ⟨g,rfl,q1,q2,q3⟩;have r0:=Za (f0.o.trans (q3.mono f0.o.size));have J0:=Za (aNz j0.o q3);have o0:=Za (q1.fd (fun _=>False) (fun h=>h));have U0:=Za (show Kd.F (dM 3 .i64) w3 (NotG g) B mm M from Kd.cdz (Kd.cVz M0.o q3) (fun q hq=>by show q≠g;omega));have W0:=Za (show Kd.F (dM 5 .u8) w3 (NotG g) A n l from Kd.cdz (Kd.csz HR.o (fun q hq _=>r0.o.block q hq)) (fun q hq=>by show q≠g;have:=f0.o.size;omega));have R0:=Za (show W.heap.size<=g from Zt f0.o.size q2);have G0:=Za (show W.heap.size+1≠g by have:=aUz j0.o;omega);clear q1 q2 q3 c0 c1 c2 M0 HR t0 j0 f0 z0;go_wp2;obtain ⟨bf,hbf⟩: ∃bf,bf=w3.heap.size:=⟨_,rfl⟩;obtain ⟨bd,hbd⟩: ∃bd,bd=W.heap.size+1:=⟨_,rfl⟩;have HT:=aoz (Zw w3.heap.size w3) (.cells #[.pointer (some ⟨g,0,none⟩)] 72);have D0:=Za (show (w3.alloc (.cells #[.pointer (some ⟨g,0,none⟩)] 72)).heap[bf]?=some (.cells #[.pointer (some ⟨g,0,none⟩)] 72 (0,0)) by rw [hbf];exact heap_alloc_new _ _)
 have A0:=Za (show (w3.alloc (.cells #[.pointer (some ⟨g,0,none⟩)] 72)).heap[bd]?=some (.cells #[.slice A n c] 24 (0,0)) by rw [hbd];exact aNz J0.o HT);have i0:=Za (aoz r0.o (.cells #[.pointer (some ⟨g,0,none⟩)] 72));have y0:=Za (o0.o.alloc (.cells #[.pointer (some ⟨g,0,none⟩)] 72));have L0:=Za (Kd.F_alloc U0.o (.cells #[.pointer (some ⟨g,0,none⟩)] 72));have Q0:=Za (Kd.F_alloc W0.o (.cells #[.pointer (some ⟨g,0,none⟩)] 72));have d1:=Za (show bf≠g by have:=o0.o.lt;omega);have o1:=Za (show bd≠g by rw [hbd];exact G0.o);rw [<-hbf, <-hbd];clear HT hbf hbd r0 J0 o0 U0 W0 G0;generalize w3.alloc (.cells #[.pointer (some ⟨g,0,none⟩)] 72)=w5 at D0 A0 i0 y0 L0 Q0|-
 go_loopw [10,35] (fun v iv wr=> ∃(k:Nat) (acc:List (List Int)),k<=mm/\iv= .int .i64 (k:Int)/\Aside0 (Kd.S (dM 5 .u8) 34 wr w5.heap.size (fun _=>True) v acc)/\Aside0 (BB w5 wr g)/\Aside0 (Fd wr g wb (fpoly wb) (fun _=>False))/\Aside0 (ayz.l K wb l (M.drop k) acc=some (r1,r2))/\acc.length<=k) (fun _ iv _=>mm - (intOf iv).toNat)
 case atStart=>exact ⟨0, [],Nat.zero_le _,rfl,⟨Kd.S_nil _ _ _ _ _⟩,⟨BB.refl _ _⟩,y0,HL,Nat.zero_le _⟩
 clear y0 HL;obtain ⟨w6,rfl⟩: ∃w6,w6=wr:=⟨_,rfl⟩;obtain ⟨k,acc,hk,rfl,HO,HB,HF,HL,hacc⟩:=hrel;by_cases hlt:k<mm
 ·obtain ⟨row,hrow⟩: ∃x,M[k]?=some x:=⟨_,Zf (by have:=C0.o;omega)⟩
  have hdr:M.drop k=row::M.drop (k+1):=by
   obtain ⟨h1,h2⟩:=Zk hrow;rw [List.drop_eq_getElem_cons h1,h2]
  have hl:=HL.o;rw [hdr,ayz.l] at hl;obtain ⟨⟨t1,t2⟩,hd,H0⟩:=Option.bind_eq_some_iff.1 hl;have hgr:=h0.o.1 row (Zo hrow);have O0:=Za hgr.1;have n0:=F_bb L0.o HB.o;rw [<-C0.o] at n0;obtain ⟨ad,A',c',rfl,hcr,hlr, -⟩:=cjz (Kd.F_now n0) k row hrow;obtain ⟨A2,c2,a0,p0,V0⟩:=row_atF n0 k row hrow
  obtain ⟨rfl,rfl⟩:A'=A2/\c'=c2:=by
   rw [hcr] at a0;injection a0 with e
   injection e with e1 e2 e3
   exact ⟨e1,e3⟩
  have k0:=Za (codec_Parity1.calls g bf bd wb (fun _=>False) A' A c' c K row l t1 t2 w6 P0.o HF.o (fun _ h=>h.elim) ((HB.o.block bf (aUz D0.o) d1.o).trans D0.o) (by rw [l0.o];exact (HB.o.block bd (aUz A0.o) o1.o).trans A0.o) V0 (by rw [l0.o];exact F_bb Q0.o HB.o) (fun x hx=>by
   have:=hgr.2 x hx
   simp [inF,this]) (by rw [O0.o,l0.o]) (by rw [l0.o];omega) N0.o.2 N0.o.1 hd)
  have u0:=Za H0;rw [O0.o] at k0 hcr;have k1:(0:Int)<=(k:Int):=by omega
  have k2:(k:Int)<(mm:Int):=by omega
  clear hrow hdr hl H0 hd hgr n0 hlr a0 p0 V0
  go_wp2_with fail
  refine k0.o.mono ?_;rintro e w7 ⟨v7,rfl,q1,q2,q3⟩;by_cases g0:t2=0
  ·subst g0;have B0:=u0.o;rw [Ya rfl] at B0;have a1:=Za B0;obtain ⟨z1,d0⟩:=Fd.cells HF.o;have hj:=S_joinK HO.o d0 (by decide) q3 q1 HB.o.size;obtain ⟨va,vc,rfl⟩:=Kd.aQz q1
   generalize t1.length=nm at *
   have Y0:=Za hj.1;have Z0:=Za hj.2.1;have i1:=Za hj.2.2;have s1:=Za (show w5.heap.size<=w7.heap.size from Zt HB.o.size q3.size);have E0:=Za (HB.o.trans q3);have j1:=Za q2;have g1:=Za (Kd.bFz hj.1);have hal:acc.length<=100:=by omega
   clear q1 q2 q3 hj d0 k0 hcr HO B0 u0;have l1:=Za hal;have u1:=Za hacc;clear hal hacc
   go_wp2_with ((with_reducible refine amz (b:= .append) (xs:= #[.tmp 47, .tmp 49]) rfl ?_);go_must (at_builtin;refine Kd.bLz (dM 5 .u8) (w0:=w7) w5.heap.size rfl (.tmp 47) (.tmp 49) 24 34 (.slice none 0 0) 24 rfl underlying24 kr_ rfl (by decide) (by decide) _ _ t1 [.slice va nm vc] (fun _=>True) (fun k'=>w6.heap.size<=k') rfl rfl Z0.o i1.o (fun _ _=>trivial) Y0.o (Zw _ _) s1.o (by have:=l1.o;omega) ?_);intro v2 w8 T0 b0 K0 F0;have X0:=Za T0;have b1:=Za b0;have f1:=Za (show w7.grownBy w8 u10.ownBlock from K0);clear T0 b0 K0 F0)
   go_roundw
   case rel=>exact ⟨k+1,acc++ [t1],by omega,by go_num,X0,⟨E0.o.then_below b1.o⟩,⟨j1.o.grown f1.o g1.o (by decide) (by decide)⟩,a1,by have:=u1.o;simp;omega⟩
   case measure=>simp [intOf];omega
  ·have b0:(t2 !=0)=true:=by simpa using g0
   have e0:=Za (show r1= [] /\r2=1 by
    have h:=u0.o;rw [Yb g0] at h;simp only [Zx,Zy] at h
    exact ⟨h.1.symm,h.2.symm⟩)
   have E0:=Za (HB.o.trans q3);clear q1 q2 q3 g0 k0 hcr;go_wp2;go_ret2;refine ⟨.slice none 0 0,?_,?_,E0.o.below i0.o R0.o⟩
   ·rw [e0.o.2];rfl
   ·rw [e0.o.1];exact Kd.S_nil _ _ _ _ _
 ·obtain rfl:k=mm:=by omega
  have h:=HL.o;rw [List.drop_of_length_le (by rw [C0.o];exact Zv _),ayz.l] at h;simp only [Zx,Zy] at h;obtain ⟨rfl,rfl⟩:=h;go_wp2;go_ret2;exact ⟨_,rfl,Kd.cMz HO.o i0.o.size,HB.o.below i0.o R0.o⟩
theorem ayz.calls (k:Nat) (b0 a0 c0:Int) (A1:Option Addr) (c1:Nat) (l1 r1:List (List Int)) (r2:Int) (w:World) (e0:Kd.C (Kd.slice 5 (Kd.int .u8)) w A1 l1.length l1) (f0:l1.length<=c1) (h:ayz.f k b0 a0 c0 l1=some (r1,r2)):
 Calls prog 19 #[.agg #[.int .i64 b0, .int .i64 a0, .int .i64 c0], .slice A1 l1.length c1] w fun e w'=> ∃d0:Value,e= .returned (.tuple #[d0, .int .i64 r2])/\Kd.S (Kd.slice 5 (Kd.int .u8)) 34 w' w.heap.size (fun _=>True) d0 r1/\Below w.heap.size w w':=by
 unfold ayz.f at h;obtain ⟨b,hb⟩:=may_some b0 a0 c0;rw [hb] at h;simp only [Zl] at h
 have bad: ∀(hh:some (([] :List (List Int)),(1:Int))=some (r1,r2)) (hc:Calls prog 19 #[.agg #[.int .i64 b0, .int .i64 a0, .int .i64 c0], .slice A1 l1.length c1] w fun e w'=>e= .returned (.tuple #[.slice none 0 0, .int .i64 1])/\Below w.heap.size w w'),Calls prog 19 #[.agg #[.int .i64 b0, .int .i64 a0, .int .i64 c0], .slice A1 l1.length c1] w fun e w'=> ∃d0:Value,e= .returned (.tuple #[d0, .int .i64 r2])/\Kd.S (Kd.slice 5 (Kd.int .u8)) 34 w' w.heap.size (fun _=>True) d0 r1/\Below w.heap.size w w':=by
  intro hh hc;simp only [Zx,Zy] at hh;obtain ⟨rfl,rfl⟩:=hh;refine hc.mono ?_;rintro e w' ⟨rfl,hB⟩;exact ⟨_,rfl,Kd.S_nil _ _ _ _ _,hB⟩
 cases b with
 |false=>exact bad (by simpa using h) (ayz.nomay b0 a0 c0 A1 c1 l1 w hb)
 |true=>
  rw [Ya rfl] at h;by_cases hl:(l1.length:Int)=a0
  ·rw [Ya hl] at h;by_cases hs:ayz.small l1=true
   ·rw [Ya hs] at h;exact ayz.go k b0 a0 c0 A1 c1 l1 r1 r2 w hb hl e0 hs h
   ·rw [Yb hs] at h;cases h
  ·rw [Yb hl] at h;exact bad h (ayz.nolen b0 a0 c0 A1 c1 l1 w hb hl)
def cyz.f (a0_0 a0_1 a0_2:Int) (l1:List (List Int)):Option (Bool):=(avz.f a0_0 a0_1 a0_2).bind fun t581=>(if t581=true then (some ((l1.length:Int)==(wrap64 (a0_1+a0_2)))) else (some false))
theorem cyz.calls (b0 c0 d0:Int) (A1:Option Addr) (c1:Nat) (l1:List (List Int)) (r:Bool) (w:World) (k0:Kd.C (Kd.slice 5 (Kd.int .u8)) w A1 l1.length l1) (j0:l1.length<=c1) (h:cyz.f b0 c0 d0 l1=some r):
  Calls prog 57 #[.agg #[.int .i64 b0, .int .i64 c0, .int .i64 d0], .slice A1 l1.length c1] w fun e w'=>e= .returned (.bool r)/\Below w.heap.size w w':=by
 have l0:=underlying23;have n0:=Za k0;have o0:=Za j0;clear k0 j0;have HB:=Za (Zw w.heap.size w);have H:=h;clear h;unfold cyz.f at H;obtain ⟨i0,A3,H⟩:=ob_ H
 (try dsimp only at H)
 by_cases c4:i0=true
 ·subst c4;rw [Ya rfl] at H;obtain rfl:=Zn H;go_enter func57,ntmps57
  go_wp2_with (first|((with_reducible refine aTz (N:=2) rfl ?_);(try (refine aYz (by rfl) ?_;dsimp only));refine bx_ 2 #[.int .i64 b0, .int .i64 c0, .int .i64 d0] 23 ?_;intro e0 hg w5 f0 hb;have n_:=Zb (hs_ HB hb) (Zb (Za (f0)) (Zb (ag_ HB e0) (ag_ HB e0)));clear HB;obtain ⟨HB,a0,g0,h0⟩:=n_;clear hb f0 hg;obtain ⟨_,_,_,_,_,_⟩:=bc3_ a0.o)|((with_reducible refine aaz (f:=41) rfl ?_);refine gl_ (some 6) func41 #[.agg #[.int .i64 b0, .int .i64 c0, .int .i64 d0]] ?_;(with_reducible refine (avz.calls b0 c0 d0 true _ A3.o).mono ?_);rintro e w7 ⟨rfl,hb⟩;refine ⟨_,rfl,?_⟩;have n_:=Zb (bb_ a0 hb) (hs_ HB hb);clear a0 HB;obtain ⟨a0,HB⟩:=n_;(try clear hb);obtain ⟨_,_,_,_,_,_⟩:=bc3_ a0.o))
  go_ret;exact ⟨er_,bl_⟩
 ·replace c4:=Zr c4;subst c4;rw [Yb (show¬(false=true) by decide)] at H;obtain rfl:=Zn H;go_enter func57,ntmps57
  go_wp2_with (first|((with_reducible refine aTz (N:=2) rfl ?_);(try (refine aYz (by rfl) ?_;dsimp only));refine bx_ 2 #[.int .i64 b0, .int .i64 c0, .int .i64 d0] 23 ?_;intro e0 hg w9 f0 hb;have n_:=Zb (hs_ HB hb) (Zb (Za (f0)) (Zb (ag_ HB e0) (ag_ HB e0)));clear HB;obtain ⟨HB,a0,g0,h0⟩:=n_;clear hb f0 hg;obtain ⟨_,_,_,_,_,_⟩:=bc3_ a0.o)|((with_reducible refine aaz (f:=41) rfl ?_);refine gl_ (some 6) func41 #[.agg #[.int .i64 b0, .int .i64 c0, .int .i64 d0]] ?_;(with_reducible refine (avz.calls b0 c0 d0 false _ A3.o).mono ?_);rintro e p0 ⟨rfl,hb⟩;refine ⟨_,rfl,?_⟩;have n_:=Zb (bb_ a0 hb) (hs_ HB hb);clear a0 HB;obtain ⟨a0,HB⟩:=n_;(try clear hb)))
  go_ret;exact ⟨er_,bl_⟩
def d4z.f (a0_0 a0_1 a0_2:Int) (l1:List Int):Option (Bool):=(bnz.f a0_0).bind fun bt583=>(if bt583.2.1=16 then (some (((l1.length:Int) % 2)==0)) else (some true))
theorem d4z.calls (f0 j0 k0:Int) (A1:Option Addr) (c1:Nat) (l1:List Int) (r:Bool) (w:World) (A0:Kd.C (Kd.int .u8) w A1 l1.length l1) (B0:l1.length<=c1) (h:d4z.f f0 j0 k0 l1=some r):
  Calls prog 59 #[.agg #[.int .i64 f0, .int .i64 j0, .int .i64 k0], .slice A1 l1.length c1] w fun e w'=>e= .returned (.bool r)/\Below w.heap.size w w':=by
 have E0:=underlying23;have z0:=underlying109;have K0:=Za A0;have L0:=Za B0;clear A0 B0;have HB:=Za (Zw w.heap.size w);have H:=h;clear h;unfold d4z.f at H;obtain ⟨⟨u0,h0,o0,l0,p0,t0⟩,A3,H⟩:=ob_ H
 (try dsimp only at H)
 by_cases c4:h0=16
 ·rw [Ya c4] at H;have w0:(h0==16)=true:=Ye c4;have y0:(h0 !=16)=false:=Yc c4;clear c4;obtain rfl:=Zn H;go_enter func59,ntmps59
  go_wp2_with (first|((with_reducible refine aTz (N:=2) rfl ?_);(try (refine aYz (by rfl) ?_;dsimp only));refine bx_ 2 #[.int .i64 f0, .int .i64 j0, .int .i64 k0] 23 ?_;intro g0 hg w5 e0 hb;have n_:=Zb (hs_ HB hb) (Zb (Za (e0)) (Zb (ag_ HB g0) (ag_ HB g0)));clear HB;obtain ⟨HB,a0,v0,q0⟩:=n_;clear hb e0 hg;obtain ⟨_,_,_,_,_,_⟩:=bc3_ a0.o)|((with_reducible refine aaz (f:=75) rfl ?_);refine gl_ (some 10) func75 #[.int .i64 f0] ?_;(with_reducible refine (bnz.calls f0 u0 h0 o0 l0 p0 t0 _ A3.o).mono ?_);rintro e w7 ⟨rfl,hb⟩;refine ⟨_,rfl,?_⟩;have n_:=Zb (bb_ a0 hb) (hs_ HB hb);clear a0 HB;obtain ⟨a0,HB⟩:=n_;(try clear hb))|((with_reducible refine aTz (N:=5) rfl ?_);(try (refine aYz (by rfl) ?_;dsimp only));refine cgz ?hg (N:=5) ?hd (cs:= #[.string (⟨#[]⟩:ByteArray), .int .i64 0, .int .u32 0, .int .u8 0, .int .i64 0]) (t:=109) ?hr ?_;(case hd=>rfl);(case hg=>rfl);(case hr=>first|(go_simp;done)|(go_simp;rfl));intro b0 hg w8 e0 hb;have n_:=Zb (bb_ a0 hb) (Zb (hs_ HB hb) (Zb (Za (e0)) (Zb (ag_ HB b0) (Zb (ag_ HB b0) (Zb (n1_ a0 b0) (n2_ a0 b0))))));clear a0 HB;obtain ⟨a0,HB,i0,r0,n0,c0,d0⟩:=n_;clear hb e0 hg;have G0:=d0.o;have F0:=c0.o;obtain ⟨_,_,_,_,_,_,_,_,_,_⟩:=bc5_ i0.o))
  go_ret;exact ⟨er_,bl_⟩
 ·rw [Yb c4] at H;have w0:(h0==16)=false:=Zq c4;have y0:(h0 !=16)=true:=Yd c4;obtain rfl:=Zn H;go_enter func59,ntmps59
  go_wp2_with (first|((with_reducible refine aTz (N:=2) rfl ?_);(try (refine aYz (by rfl) ?_;dsimp only));refine bx_ 2 #[.int .i64 f0, .int .i64 j0, .int .i64 k0] 23 ?_;intro g0 hg I0 e0 hb;have n_:=Zb (hs_ HB hb) (Zb (Za (e0)) (Zb (ag_ HB g0) (ag_ HB g0)));clear HB;obtain ⟨HB,a0,v0,q0⟩:=n_;clear hb e0 hg;obtain ⟨_,_,_,_,_,_⟩:=bc3_ a0.o)|((with_reducible refine aaz (f:=75) rfl ?_);refine gl_ (some 10) func75 #[.int .i64 f0] ?_;(with_reducible refine (bnz.calls f0 u0 h0 o0 l0 p0 t0 _ A3.o).mono ?_);rintro e H0 ⟨rfl,hb⟩;refine ⟨_,rfl,?_⟩;have n_:=Zb (bb_ a0 hb) (hs_ HB hb);clear a0 HB;obtain ⟨a0,HB⟩:=n_;(try clear hb))|((with_reducible refine aTz (N:=5) rfl ?_);(try (refine aYz (by rfl) ?_;dsimp only));refine cgz ?hg (N:=5) ?hd (cs:= #[.string (⟨#[]⟩:ByteArray), .int .i64 0, .int .u32 0, .int .u8 0, .int .i64 0]) (t:=109) ?hr ?_;(case hd=>rfl);(case hg=>rfl);(case hr=>first|(go_simp;done)|(go_simp;rfl));intro b0 hg J0 e0 hb;have n_:=Zb (bb_ a0 hb) (Zb (hs_ HB hb) (Zb (Za (e0)) (Zb (ag_ HB b0) (Zb (ag_ HB b0) (Zb (n1_ a0 b0) (n2_ a0 b0))))));clear a0 HB;obtain ⟨a0,HB,i0,r0,n0,c0,d0⟩:=n_;clear hb e0 hg;have C0:=d0.o;have D0:=c0.o;obtain ⟨_,_,_,_,_,_,_,_,_,_⟩:=bc5_ i0.o))
  go_ret;exact ⟨er_,bl_⟩
section
variable {F : Fence} {n : Nat} {P : Program}
def SeqN {α:Type} (F:Fence) (n:Nat) (P:Program) (g:Nat) (lb:Array Value) (encs:α->Array Value) (Hd:Nat->α->World->Prop) (Kp:World->World->Prop) (S:List α->Prop) (M:Nat) (w:World):Prop:=
 ∀(l:Nat) (J:List α->World->Prop) (W:World),Below w.heap.size w W->(∀s A B,J s A->A.grownBy B none->J s B)->
  (∀pre x W1,J pre W1->Hd pre.length x W1->pre.length<M->YieldAt F (n - 1) P l (encs x) W1 fun e W'=>e= .returned (.bool true)/\J (pre++ [x]) W'/\Kp W1 W')->
  J [] W->CallsIn F n P g (#[.func (.yield l) #[] #[]] ++lb) W fun e W'=>(∃v,e= .returned v)/\ ∃xs,S xs/\J xs W'
def plainPostN {α:Type} (B:Nat) (Kp:World->World->Prop) (I:List α->World->Prop) (xs:List α) (W:World):Exit->Act->World->Prop
 | .normal,_,W'=>KeepsFrom B W W'/\Kp W W'/\I xs W'
 |_,_,_=>False
theorem e4z {α : Type} {g : Operand} {ps : Array Tmp} {assign body : Code} {Q : Exit -> Act -> World -> Prop} {a : Act} {w : World}
  (hro:F.round=none) (h1:1<=n) {gf:Nat} {lb:Array Value} (hg:a.eval g= .func (.func gf) #[] lb) (hFg:F.fn gf) (eg: ∀args w,(callFunc gf args).run P w= .ok (.enter gf args) w)
  {encs:α->Array Value} {Hd:Nat->α->World->Prop} {Kp:World->World->Prop} {S:List α->Prop} {M:Nat} {w0:World} (hseq:SeqN F (n - 1) P gf lb encs Hd Kp S M w0)
  (hKt: ∀ {A B C:World},Kp A B->Kp B C->Kp A C) (hKb: ∀(W:World) (l:Nat) (o o':Obj),w.heap.size<=l->W.heap[l]?=some o->o.isCells=false->Kp W (W.putObj l o')) (a0:Below w0.heap.size w0 w) (hps: ∀x,(encs x).size=ps.size)
  (I:List α->World->Prop) (hI:OwnFrom w.heap.size I) (hHd: ∀m x,OwnFrom w.heap.size (fun (_:Unit) W=>Hd m x W)) (h0:I [] w) (a₁:α->Act)
  (hassign: ∀(l:Nat) (x:α) (W:World) (K:Act->World->Prop),K (a₁ x) W->
   assign.wpIn (F.inRound l) (n - 1 - 1) P (Exit.then K (fun _ _ _=>False)) { tmps:=(ps.zip (encs x)).foldl (fun t (p,v)=>t.setIfInBounds p v) a.tmps,defers:= [] } W)
  (hbody: ∀(l:Nat) (pre:List α) (x:α) (W:World),I pre W->Hd pre.length x W->pre.length<M->body.wpIn (F.inRound l) (n - 1 - 1) P (plainPostN w.heap.size Kp I (pre++ [x]) W) (a₁ x) W)
  (hdone: ∀(D:Nat) (xs:List α) (W:World),w.heap.size<=D->S xs->I xs W->W.heap[D]?=some (.deferred (some []))->Q .normal { a with defers:= { target:= .collected D,args:= #[] } ::a.defers } W):
  (Code.rangeFunc g ps assign body).wpIn F n P Q a w:=by
 refine wpIn_rangeFunc fun fn hfn=> ?_
 rw [hro];obtain ⟨L,hL⟩: ∃L:LoopState->Option Code->Loop,L=fun st pe=> { state:=st,pending:=pe,fn,tmps:=a.tmps,params:=ps,assign,body,defers:=w.heap.size } :=⟨_,rfl⟩
 obtain ⟨V,hV⟩: ∃V,(w.alloc (.deferred (some []))).alloc (.loop (L .ready none))=V:=⟨_,rfl⟩
 have vl:V.heap[w.heap.size+1]?=some (.loop (L .ready none)):=by
  rw [<-hV];have:=World.alloc_heap_new (w.alloc (.deferred (some []))) (.loop (L .ready none));rwa [World.size_alloc] at this
 have vd:V.heap[w.heap.size]?=some (.deferred (some [])):=by
  rw [<-hV];exact (Below.heap_alloc _ _ _ (by simp)).trans (World.alloc_heap_new w _)
 refine ⟨w.heap.size+1, [{ target:= .collected w.heap.size,args:= #[] }],V, { target:= .fn (.func gf) lb,args:= #[.func (.yield (w.heap.size+1)) #[] #[]] },V,gf,
  #[.func (.yield (w.heap.size + 1)) #[] #[]] ++ lb, V, by rw [<- hV, hL]; exact run_enterLoop_outer _ _ _ _ _, by simp only [resolve, hg]; simp [go_sem], ?_, by simp [invoke, go_sem, eg], fun _ => h1, ?_⟩
 ·intro f' hf';simp [Target.leads] at hf';subst hf';exact hFg
 refine (hseq (w.heap.size+1) (fun pre W=>(I pre W/\w.heap.size+1<W.heap.size)/\W.heap[w.heap.size+1]?=some (.loop (L .ready none))/\W.heap[w.heap.size]?=some (.deferred (some []))) V ?_ ?_ ?_ ?_).mono ?_
 ·rw [<-hV];exact a0.trans ((((Zw _ w).alloc (Zv _) _).alloc (by simp) _).mono a0.size)
 ·rintro s A B ⟨⟨i1,i2⟩,i3,i4⟩ hgr;exact ⟨⟨hI s A B none i1 hgr (fun r e=>by cases e),Zp i2 hgr.size⟩,(hgr.block _ i2 (by simp)).trans i3,(hgr.block _ (by omega) (by simp)).trans i4⟩
 ·rintro pre x W ⟨⟨i1,i2⟩,i3,i4⟩ hx hlen;have hy:=run_yield (P:=P) (args:=encs x) i3 (by rw [hL];exact hps x);rw [hL] at hy;refine ⟨fn,_,assign,body,hy,roundIn_of_wpIn hfn (hassign _ x W _ ?_)⟩;refine ⟨_,run_beginRound i3 (by rw [hL]),?_⟩;have l2:(W.putObj (w.heap.size+1) (.loop { L .ready none with state:= .busy })).heap[w.heap.size+1]?=some (.loop { L .ready none with state:= .busy }):=World.putObj_heap_same i2;have d2:(W.putObj (w.heap.size+1) (.loop { L .ready none with state:= .busy })).heap[w.heap.size]?=some (.deferred (some [])):=(World.putObj_heap_other (by omega)).trans i4;have k2:Kp W (W.putObj (w.heap.size+1) (.loop { L .ready none with state:= .busy })):=hKb _ _ _ _ (by omega) i3 rfl;refine wpIn_mono (hbody _ pre x _ (hI.putObj _ i1 (by omega) i3 rfl) ((hHd _ x).putObj (s:=()) _ hx (by omega) i3 rfl) hlen) ?_;rintro e a3 W3 hp
  cases e with
  |normal=>
   obtain ⟨q1,q2,q3⟩:=hp;have l3:=q1.same _ _ (by omega) l2 rfl;have d3:=q1.same _ _ (Zv _) d2 rfl;have hr:=run_endRound (P:=P) none l3;have hlt:=(Array.getElem?_eq_some_iff.1 l3).1;refine ⟨_,_,hr,rfl,⟨⟨hI.putObj _ q3 (by omega) l3 rfl,Zp hlt (grownBy_putObj' _ _ _).size⟩,?_,(World.putObj_heap_other (by omega)).trans d3⟩,hKt (hKt k2 q2) (hKb _ _ _ _ (by omega) l3 rfl)⟩;rw [World.putObj_heap_same hlt,hL];rfl
  |ret=>exact hp.elim
  |exit id=>exact hp.elim
  |goto t=>exact hp.elim
  |panic ch=>exact hp.elim
  |outgrown=>exact hp.elim
 ·refine ⟨⟨?_,?_⟩,vl,vd⟩
  ·rw [<-hV];exact hI.alloc _ (hI.alloc _ h0)
  ·rw [<-hV];simp
 ·rintro e W2 ⟨⟨v,rfl⟩,xs,hS,⟨i1,i2⟩,i3,i4⟩;exact ⟨none,_,by have:=run_endLoop (P:=P) i3 (by rw [hL];simp);rw [hL] at this;exact this,hdone _ xs _ (Zv _) hS (hI.putObj _ i1 (by omega) i3 rfl) ((World.putObj_heap_other (by omega)).trans i4)⟩
end
end Go.Proofs.Xc
end
section
namespace Go.Proofs.Xc
open Go.RowKit Go.Proofs.Pw Go.Proofs.Pl Go.Proofs.Pm Tryz
attribute [local go_sem] a7z a8z bgz bhz aVz aWz a9z baz
attribute [local go_sem] Oper.semAt_some
def thereF:Nat->List (List Int)->List Bool->List (Nat×List Int)
 |i,b::l,h::hv=>if h=true then (i,b)::thereF (i+1) l hv else thereF (i+1) l hv
 |_,_,_=> []
abbrev ThX:=Nat×Option Addr×Nat×List Int
def thK (x:ThX):Nat×List Int:=(x.1,x.2.2.2)
def HdT (T:List (Nat×List Int)) (ok:Nat->Prop) (m:Nat) (x:ThX) (W:World):Prop:=T[m]?=some (thK x)/\x.2.2.2.length<=x.2.2.1/\Kd.F (Kd.int .u8) W ok x.2.1 x.2.2.2.length x.2.2.2
theorem there.calls (A A2:Option Addr) (n c n2 c2:Nat) (W:World):Calls prog 58 #[.slice A n c, .slice A2 n2 c2] W fun e w'=>e= .returned (.func (.func 93) #[] #[.pointer (some ⟨W.heap.size,0,none⟩), .pointer (some ⟨W.heap.size+1,0,none⟩)])/\w'=(W.alloc (.cells #[.slice A n c] 24)).alloc (.cells #[.slice A2 n2 c2] 38):=by
 have a0: ∀(fn:Fn) (first cap:Array Value) (w:World),(Instr.makeFunc fn first cap).run prog w= .ok (.func fn first cap) w:=fun _ _ _ _=>rfl
 go_enter func58,ntmps58;go_wp2;go_ret;exact ⟨by simp,rfl⟩
theorem there1_in (l bs bh N n cs ch : Nat) (ex : Nat -> Prop) (A A2 : Option Addr) (sh : List (List Int)) (hv : List Bool) (W0 W : World) (J : List ThX -> World -> Prop)
  (hF:Kd.F (dM 5 .u8) W0 (fun k=> ¬ex k) A sh.length sh) (hH:Kd.F Kd.bool W0 (fun k=> ¬ex k) A2 hv.length hv) (hN:W0.heap.size<=N) (h0:KpX N ex W0 W) (hl:sh.length=n) (c0:hv.length=n) (hn:n<=100000) (N0:1<=n)
  (e0:W.heap[bs]?=some (.cells #[.slice A n cs] 24 (0,0))) (n0:W.heap[bh]?=some (.cells #[.slice A2 n ch] 38 (0,0))) (hbs:bs<N/\ ¬ex bs) (g0:bh<N/\ ¬ex bh) (hJ: ∀s X Y,J s X->X.grownBy Y none->J s Y)
  (hY: ∀pre x W1,J pre W1->HdT (thereF 0 sh hv) (fun k=> ¬ex k/\k<W0.heap.size) pre.length x W1->pre.length<(thereF 0 sh hv).length->YieldAt Fence.wide (7 - 1) prog l #[.int .i64 (x.1:Int), .slice x.2.1 x.2.2.2.length x.2.2.1] W1 fun e W'=>e= .returned (.bool true)/\J (pre++ [x]) W'/\KpX N ex W1 W') (u0:J [] W):
  CallsIn Fence.wide 7 prog 93 #[.func (.yield l) #[] #[], .pointer (some ⟨bs,0,none⟩), .pointer (some ⟨bh,0,none⟩)] W fun e W'=>(∃v,e= .returned v)/\ ∃xs:List ThX,xs.map thK=thereF 0 sh hv/\J xs W':=by
 obtain ⟨T,hT⟩: ∃T,thereF 0 sh hv=T:=⟨_,rfl⟩;have l0:thereF 0 (sh.drop 0) (hv.drop 0)=T:=hT;have t0:=Za (fun (W':World) (hk:KpX N ex W0 W')=>(Kd.csz (W1:=W') (Kd.dVz hF) (fun k k0 K0=>hk.2 k (by omega) k0.1)));have w0:=Za (fun (W':World) (hk:KpX N ex W0 W')=>(Kd.csz (W1:=W') (Kd.dVz hH) (fun k k0 K0=>hk.2 k (by omega) k0.1)));have M0:=Za (fun (W':World) (hk:KpX N ex W W')=>(hk.2 bs hbs.1 hbs.2).trans e0);have G0:=Za (fun (W':World) (hk:KpX N ex W W')=>(hk.2 bh g0.1 g0.2).trans n0);obtain ⟨r0,v0⟩: ∃r,sh[0]?=some r:=⟨_,Zf (by omega)⟩;obtain ⟨ad,A1,c1,rfl, -, -, -⟩:=cjz (Kd.F_now hF) 0 r0 v0;obtain ⟨B0,rfl, -⟩:=Kd.at_bool (Kd.F_now hH) 0 (by omega) (by omega);rw [hT] at hY|-;have HJ:=Za hJ;have HY:=Za hY;have C0:=Za u0;have H0:=Za h0;have z0:=Za l0;have HL:=Za hl;have I0:=Za c0;have hbc:W.cell? ⟨bs,0,none⟩=some (.slice (some ad) n cs):=(abz e0 0).trans rfl;rw [hl] at t0
 rw [c0] at w0;clear hF hH hN h0 hl c0 e0 n0 hbs g0 hJ hY u0 hT l0 v0;refine callsIn_of_wp func93 rfl trivial ?_ rfl;simp only [ntmps93,List.size_toArray,List.length_cons,List.length_nil,Nat.reduceAdd,Nat.reduceSub,Array.replicate_succ,Array.replicate_zero,List.push_toArray,List.append_toArray,List.nil_append,List.cons_append]
 gi_wp2
 gi_loopw [8] (fun i wr=> ∃(k:Nat) (pre:List ThX),k<=n/\i= .int .i64 (k:Int)/\Aside0 (pre.map thK++thereF k (sh.drop k) (hv.drop k)=T)/\Aside0 (J pre wr)/\Aside0 (KpX N ex W wr)) (fun i _=>n - (intOf i).toNat)
 case atStart=>exact ⟨0, [],Nat.zero_le _,rfl,z0,C0,⟨Zv _,fun _ _ _=>rfl⟩⟩
 clear C0 hbc z0;obtain ⟨wq,rfl⟩: ∃wq,wq=wr:=⟨_,rfl⟩;obtain ⟨k,pre,hk,rfl,HP,d0,HK⟩:=hrel;by_cases hlt:k<n
 ·obtain ⟨b,hb⟩: ∃x,sh[k]?=some x:=⟨_,Zf (by have:=HL.o;omega)⟩;obtain ⟨h,hh⟩: ∃x,hv[k]?=some x:=⟨_,Zf (by have:=I0.o;omega)⟩
  have hds:sh.drop k=b::sh.drop (k+1):=by
   obtain ⟨h1,h2⟩:=Zk hb;rw [List.drop_eq_getElem_cons h1,h2]
  have y0:hv.drop k=h::hv.drop (k+1):=by
   obtain ⟨h1,h2⟩:=Zk hh;rw [List.drop_eq_getElem_cons h1,h2]
  have hp:=HP.o;rw [hds,y0,thereF] at hp;have i0:=t0.o wq (H0.o.trans HK.o);rw [<-HL.o] at i0;obtain ⟨A',c',e1,l1,FR⟩:=row_atF i0 k b hb;obtain ⟨ad',he,e2⟩:=Kd.at_bool (Kd.F_now (w0.o wq (H0.o.trans HK.o))) (k:Int) (by omega) (by omega);obtain rfl:B0=ad':=Zn he
  have hrd:rdOf false hv (k:Int)=h:=by
   unfold rdOf;rw [Zu,Zm,hh];rfl
  rw [hrd,Zu] at e2;have q2:wq.cell? ⟨bh,0,none⟩=some (.slice (some B0) n ch):=(abz (G0.o _ HK.o) 0).trans rfl;have p0:=Za FR;have L0:=Za l1;have b0:=Za hp;have i1:(0:Int)<=(k:Int):=by omega
  have i2:(k:Int)<(n:Int):=by omega
  obtain ⟨nb,hnb⟩: ∃nb,b.length=nb:=⟨_,rfl⟩;have D0:=Za hnb;rw [hnb] at e1;clear hb hh hds y0 hp i0 he hrd FR l1 hnb HP
  cases h with
  |false=>
   have a0:=b0.o;rw [Yb (by decide)] at a0;have f0:=Za a0;clear a0 b0
   gi_wp2
   refine ⟨(by intro f hf;cases hf),?_⟩
   gi_wp2
   go_roundw
   case rel=>exact ⟨k+1,pre,by omega,by go_num,f0,d0,HK⟩
   case measure=>simp [intOf];omega
  |true=>
   have a0:=b0.o;rw [Ya rfl] at a0
   have j0:T[pre.length]?=some (k,b):=by
    rw [<-a0,List.getElem?_append_right (by simp)];simp
   have A0:pre.length<T.length:=(Zk j0).1;obtain ⟨fn,tmps,assign,body,hy,hR⟩:=HY.o pre (k,A',c',b) wq d0.o ⟨j0,L0.o,p0.o⟩ A0;dsimp only at hy;rw [D0.o] at hy;have HRR:=Za hR
   have f0:=Za (show (pre++ [((k,A',c',b):ThX)]).map thK++thereF (k+1) (sh.drop (k+1)) (hv.drop (k+1))=T by
    rw [<-a0,List.map_append,List.append_assoc]
    rfl)
   clear a0 j0 A0 hR b0 p0
   gi_wp2
   refine HRR.o.mono ?_;rintro e w3 ⟨rfl,o0,q0⟩;have F0:=Za o0;have J0:=Za q0;clear hy o0 q0
   gi_wp2
   go_roundw
   case rel=>exact ⟨k+1,pre++ [(k,A',c',b)],by omega,by go_num,f0,F0,⟨HK.o.trans J0.o⟩⟩
   case measure=>simp [intOf];omega
 ·obtain rfl:k=n:=by omega
  have hp:=HP.o;rw [List.drop_of_length_le (by have:=HL.o;omega),thereF.eq_def] at hp;have E0:=Za (show pre.map thK=T by simpa using hp);clear hp
  gi_wp2
  go_end0
  exact ⟨⟨_,rfl⟩,pre,E0.o,d0.o⟩
theorem there_seq (bs bh N n cs ch : Nat) (ex : Nat -> Prop) (A A2 : Option Addr) (sh : List (List Int)) (hv : List Bool) (W0 w : World)
  (hF:Kd.F (dM 5 .u8) W0 (fun k=> ¬ex k) A sh.length sh) (hH:Kd.F Kd.bool W0 (fun k=> ¬ex k) A2 hv.length hv) (hN:W0.heap.size<=N) (g0:N<=w.heap.size) (h0:KpX N ex W0 w) (hl:sh.length=n) (b0:hv.length=n) (hn:n<=100000) (e0:1<=n)
  (f0:w.heap[bs]?=some (.cells #[.slice A n cs] 24 (0,0))) (d0:w.heap[bh]?=some (.cells #[.slice A2 n ch] 38 (0,0))) (hbs:bs<N/\ ¬ex bs) (a0:bh<N/\ ¬ex bh):
  SeqN Fence.wide 7 prog 93 #[.pointer (some ⟨bs,0,none⟩), .pointer (some ⟨bh,0,none⟩)] (fun x:ThX=> #[.int .i64 (x.1:Int), .slice x.2.1 x.2.2.2.length x.2.2.1]) (HdT (thereF 0 sh hv) (fun k=> ¬ex k/\k<W0.heap.size)) (KpX N ex) (fun xs=>xs.map thK=thereF 0 sh hv) (thereF 0 sh hv).length w:=by
 intro l J W hW hJ hY c0;have hk:KpX N ex w W:=⟨hW.size,fun k hk _=>hW.block k (by omega)⟩;exact there1_in l bs bh N n cs ch ex A A2 sh hv W0 W J hF hH hN (h0.trans hk) hl b0 hn e0 ((hk.2 bs hbs.1 hbs.2).trans f0) ((hk.2 bh a0.1 a0.2).trans d0) hbs a0 hJ hY c0
end Go.Proofs.Xc
end
section
namespace Go.Proofs.Xc
open Go.RowKit Go.Proofs.Pw Go.Proofs.Pl Go.Proofs.Pm Tryz
attribute [local go_sem] a7z a8z bgz bhz aVz aWz a9z baz
def slE (x:ThX):Value:= .slice x.2.1 x.2.2.2.length x.2.2.1
def slK:Kd ThX:=Kd.scalar slE (fun _=>rfl)
def ThOk (W:World) (ok:Nat->Prop) (x:ThX):Prop:=x.2.2.2.length<=x.2.2.1/\Kd.F (Kd.int .u8) W ok x.2.1 x.2.2.2.length x.2.2.2
theorem ThOk.move {W W1:World} {ok:Nat->Prop} {x:ThX} (h:ThOk W ok x) (hm: ∀k,ok k->k<W.heap.size->W1.heap[k]?=W.heap[k]?):ThOk W1 ok x:=⟨h.1,Kd.csz h.2 hm⟩
theorem first_F {e base n c:Nat} {W:World} {ok okB:Nat->Prop} {A:Option Addr} {its:List ThX} (h:slK.R e W base ok (.slice A n c) its) (hr: ∀x,x∈its->ThOk W okB x):
  Kd.F (dM 5 .u8) W (fun k=>okB k\/some k=(Value.slice A n c).ownBlock) A its.length (its.map fun x=>x.2.2.2):=by
 intro W' hW;have h1:slK.R e W' base (fun k=>some k=(Value.slice A n c).ownBlock) (.slice A n c) its:=Kd.cvz (Kd.b5z rfl (Kd.aKz h (fun _ _=>trivial))) (fun k hk=>hW k (.inr hk) (Kd.R_lt h k hk.symm));obtain ⟨h2,h3,h4⟩:=(Kd.aHz h1).2.2;refine ⟨by simp,h3,fun hp=> ?_⟩;obtain ⟨ad,hA,hc⟩:=h4 hp;refine ⟨ad,hA,fun j p hj=> ?_⟩;rw [List.getElem?_map] at hj;obtain ⟨x,hx,rfl⟩:=Option.map_eq_some_iff.1 hj;obtain ⟨cs,hl,hk,hcell⟩:=hc j x hx;obtain rfl:cs= [slE x] :=hk;have a0:=hr x (Zo hx);exact ⟨_,rfl,⟨x.2.1,x.2.2.1,rfl,a0.1,a0.2 W' (fun k hk hlt=>hW k (.inl hk) hlt)⟩,hcell⟩
theorem rr_one {α:Type} (enc:α->Value) {W:World} {g e:Nat} {x:α} {fr:Nat×Nat} (h:W.heap[g]?=some (.cells #[enc x] e fr)):bRz (fun (y:α) cs=>cs= [enc y]) 1 W (some ⟨g,0,none⟩) 1 [x] :=by
 refine ⟨rfl,by decide,fun _=>⟨_,rfl,fun j p hp=>⟨[enc p],rfl,rfl,fun i u hu=> ?_⟩⟩⟩
 cases j with
 |succ j=>simp at hp
 |zero=>
  obtain rfl:x=p:=by simpa using hp
  cases i with
  |succ i=>simp at hu
  |zero=>
   obtain rfl:enc x=u:=by simpa using hu
   rw [show (⟨g,0,none⟩:Addr).add (0*1+0)=⟨g,0,none⟩ from cRz _];exact (cell_of_row W g 0 _ e fr h).trans rfl
theorem cpast {W:World} {b i:Nat} {v:Value} (o:Obj) (h:W.cell? ⟨b,i,none⟩=some v):(W.alloc o).cell? ⟨b,i,none⟩=some v:=(World.cell?_alloc_past _ _ _ (Zj _ _ h)).trans h
theorem cgrow {W W1:World} {a:Addr} {v:Value} {r:Option Nat} (h:W.cell? a=some v) (g:W.grownBy W1 r) (hne:some a.block≠r):W1.cell? a=some v:=(World.cell?_of_block (g.block _ (Zj _ _ h) hne)).trans h
theorem gtr {A B C:World} {r:Option Nat} (h:A.grownBy B r) (k:B.grownBy C r):A.grownBy C r:=
 ⟨k.os.trans h.os,k.tape.trans h.tape,k.output.trans h.output,Zt h.size k.size,fun i hi hr=>(k.block i (Zp hi h.size) hr).trans (h.block i hi hr)⟩
theorem gall {A B:World} {r:Option Nat} (h:A.grownBy B r) (o:Obj):A.grownBy (B.alloc o) r:=
 gtr h (by
  have hb:=aoz (Zw B.heap.size B) o
  exact ⟨hb.os,hb.tape,hb.output,hb.size,fun i hi _=>hb.block i hi⟩)
theorem slK_noncells {X Y:World} {row:Option Nat} {base:Nat} {ok:Nat->Prop} {v:Value} {xs:List ThX} {e:Nat} (h:slK.R e X base ok v xs) (hg:X.grownBy Y row) (hr: ∀r,row=some r-> ∃o:Obj,X.heap[r]?=some o/\o.isCells=false):slK.R e Y base ok v xs:=by
 refine Kd.aKz (Kd.cvz (Kd.b5z rfl (Kd.aKz h (fun _ _=>trivial))) (fun k hk=> ?_)) (fun k hk=>h.1 k hk.symm);obtain ⟨cells,hc⟩:=Kd.dTz h k hk.symm;exact grownBy_keeps_cells hg hr hc rfl
theorem even_ev (p:Int) (h1:1<=p) (h2:p<=6) (n m:Int) (b:List Int):d4z.f p n m b=some (evB (pbits p) b):=by
 have hp:p=1\/p=2\/p=3\/p=4\/p=5\/p=6:=by omega
 have e1: ∀q:Int,pbits q=8->evB (pbits q) b=true:=fun q hq=>by
  unfold evB;rw [hq];show (b.length % 1==0)=true;rw [Nat.mod_one];rfl
 rcases hp with rfl|rfl|rfl|rfl|rfl|rfl
 ·rw [e1 1 rfl];rfl
 ·show some (((b.length:Int) % 2)==0)=some (b.length % 2==0);congr 1
  have:((b.length:Int) % 2)=((b.length % 2:Nat):Int):=by omega
  rw [this];rcases Nat.mod_two_eq_zero_or_one b.length with h|h<;>rw [h] <;>rfl
 ·rw [e1 3 rfl];rfl
 ·rw [e1 4 rfl];rfl
 ·rw [e1 5 rfl];rfl
 ·rw [e1 6 rfl];rfl
def goodL (wb:Int) (L:Nat) (T:List (Nat×List Int)):Bool:=T.all fun y=>evB wb y.2&&y.2.length==L
theorem goodL_snoc (wb:Int) (L:Nat) (T:List (Nat×List Int)) (y:Nat×List Int):goodL wb L (T++ [y])=(goodL wb L T&&(evB wb y.2&&y.2.length==L)):=by simp [goodL]
def len0 (T:List (Nat×List Int)):Nat:=(T.getD 0 (0, [])).2.length
structure RX (N b8 b9 b10:Nat) (A B:World):Prop where
 os:B.os=A.os
 tape:B.tape=A.tape
 output:B.output=A.output
 size:A.heap.size<=B.heap.size
 block: ∀k,k<N->k≠b8->k≠b9->k≠b10->B.heap[k]?=A.heap[k]?
 walks: ∀(k:Nat) (o:Obj),A.heap[k]?=some o->o.isCells=false->B.heap[k]?=some o
theorem RX.trans {N b8 b9 b10:Nat} {A B C:World} (h:RX N b8 b9 b10 A B) (k:RX N b8 b9 b10 B C):RX N b8 b9 b10 A C:=
 ⟨k.os.trans h.os,k.tape.trans h.tape,k.output.trans h.output,Zt h.size k.size,fun i h1 h2 h3 h4=>(k.block i h1 h2 h3 h4).trans (h.block i h1 h2 h3 h4),fun i o ho hn=>k.walks i o (h.walks i o ho hn) hn⟩
theorem RX.refl (N b8 b9 b10:Nat) (A:World):RX N b8 b9 b10 A A:=⟨rfl,rfl,rfl,Zv _,fun _ _ _ _ _=>rfl,fun _ _ h _=>h⟩
theorem RX.of_below {N b8 b9 b10:Nat} {A B:World} (h:Below A.heap.size A B) (hN:N<=A.heap.size):RX N b8 b9 b10 A B:=⟨h.os,h.tape,h.output,h.size,fun k hk _ _ _=>h.block k (by omega),fun k o ho _=>(h.block k (aUz ho)).trans ho⟩
theorem RX.of_grown {N b8 b9 b10:Nat} {A B:World} {r:Option Nat} (h:A.grownBy B r) (hN:N<=A.heap.size) (hr: ∀q,r=some q->N<=q/\ ∃cells e fr,A.heap[q]?=some (.cells cells e fr)):RX N b8 b9 b10 A B:=
 ⟨h.os,h.tape,h.output,h.size,fun k hk _ _ _=>h.block k (by omega) (fun e=>by have:=(hr k e.symm).1;omega),fun k o ho hn=>(h.block k (aUz ho) (fun e=>by
  obtain ⟨-,cells,ee,fr,hc⟩:=hr k e.symm
  rw [hc] at ho;cases ho;cases hn)).trans ho⟩
theorem RX.of_set {N b8 b9 b10:Nat} {A:World} {b:Nat} {v v0:Value} {e:TypeId} (hb:A.heap[b]?=some (.cells #[v0] e (0,0))) (hx:b=b8\/b=b9\/b=b10):RX N b8 b9 b10 A (A.setCell ⟨b,0,none⟩ v):=by
 have hs: ∀k,k≠b->(A.setCell ⟨b,0,none⟩ v).heap[k]?=A.heap[k]?:=fun k hk=>Below.heap_setCell A ⟨b,0,none⟩ v k hk
 refine ⟨rfl,rfl,rfl,by simp,fun k _ h1 h2 h3=>hs k (by omega),fun k o ho hn=>(hs k ?_).trans ho⟩;rintro rfl;rw [hb] at ho;cases ho;cases hn
theorem RX.blk {N b8 b9 b10:Nat} {A B:World} (h:RX N b8 b9 b10 A B) {k:Nat} {o:Obj} (hk:A.heap[k]?=some o) (h1:k<N) (h2:k≠b8) (h3:k≠b9) (h4:k≠b10):B.heap[k]?=some o:=(h.block k h1 h2 h3 h4).trans hk
theorem slK_grow {X Y:World} {r:Option Nat} {base e:Nat} {v:Value} {xs:List ThX} (h:slK.R e X base (fun _=>True) v xs) (hg:X.grownBy Y r) (hne: ∀k,v.ownBlock=some k->some k≠r):slK.R e Y base (fun _=>True) v xs:=
 Kd.aKz (Kd.cvz (Kd.b5z rfl h) (fun k hk=>hg.block k (Kd.R_lt h k hk.symm) (hne k hk.symm))) (fun _ _=>trivial)
theorem int_grow {X Y:World} {r:Option Nat} {base e:Nat} {v:Value} {xs:List Int} (h:(Kd.int .i64).R e X base (fun _=>True) v xs) (hg:X.grownBy Y r) (hne: ∀k,v.ownBlock=some k->some k≠r):(Kd.int .i64).R e Y base (fun _=>True) v xs:=
 Kd.aKz (Kd.cvz (Kd.b5z rfl h) (fun k hk=>hg.block k (Kd.R_lt h k hk.symm) (hne k hk.symm))) (fun _ _=>trivial)
theorem own_ne {X:World} {u v:Value} {e1 e2:TypeId} (h1: ∀k,u.ownBlock=some k-> ∃cells,X.heap[k]?=some (.cells cells e1 (0,0))) (h2: ∀k,v.ownBlock=some k-> ∃cells,X.heap[k]?=some (.cells cells e2 (0,0))) (hne:e1≠e2): ∀k,u.ownBlock=some k->some k≠v.ownBlock:=by
 intro k hk he;obtain ⟨c1,e1'⟩:=h1 k hk;obtain ⟨c2,e2'⟩:=h2 k he.symm;rw [e1'] at e2';injection e2' with e3
 injection e3 with _ e4
 exact hne e4
theorem thereF_le: ∀(i:Nat) (l:List (List Int)) (hv:List Bool),(thereF i l hv).length<=l.length
 |_, [],_=>by simp [thereF]
 |_,_::_, [] =>by simp [thereF]
 |i,b::l,h::hv=>by
  have ih:=thereF_le (i+1) l hv;unfold thereF
  cases h with
  |true=>simpa using ih
  |false=>rw [Yb (by decide)];simp only [List.length_cons];omega
theorem slK_cell0 {W:World} {A:Option Addr} {n c e base:Nat} {ok:Nat->Prop} {its:List ThX} {x:ThX} (h:slK.R e W base ok (.slice A n c) its) (hx:its[0]?=some x): ∃ad,A=some ad/\W.cell? ad=some (slE x):=by
 obtain ⟨h2,h3,h4⟩:=(Kd.aHz h).2.2;obtain ⟨ad,hA,hc⟩:=h4 (by have:=(Zk hx).1;omega);obtain ⟨cs,hl,hk,hcell⟩:=hc 0 x hx;obtain rfl:cs= [slE x] :=hk;have h5:=hcell 0 (slE x) rfl;rw [show ad.add (0*slK.sz+0)=ad from by rw [Nat.zero_mul];exact cRz ad] at h5;exact ⟨ad,hA,h5⟩
theorem gdr {A B:World} {r:Option Nat} (h:A.grownBy B r):A.grownBy B.drew r:=⟨h.os,h.tape,h.output,h.size,h.block⟩
theorem thereF_lt: ∀(i:Nat) (l:List (List Int)) (hv:List Bool) (x:Nat×List Int),x∈thereF i l hv->x.1<i+l.length
 |_, [],_,x,h=>by simp [thereF] at h
 |_,_::_, [],x,h=>by simp [thereF] at h
 |i,b::l,h::hv,x,hx=>by
  unfold thereF at hx;have ih:=thereF_lt (i+1) l hv x
  cases h with
  |true=>
   rw [Ya rfl] at hx;rcases List.mem_cons.1 hx with rfl|hx
   ·simp
   ·have:=ih hx;simp only [List.length_cons];omega
  |false=>
   rw [Yb (by decide)] at hx;have:=ih hx;simp only [List.length_cons];omega
def regOnly (K:Act->World->Prop):Exit->Act->World->Prop
 | .normal,a,w=>K a w
 |_,_,_=>False
theorem regOnly_normal {K:Act->World->Prop} {a:Act} {w:World} (h:K a w):regOnly K .normal a w:=h
theorem regOnly_ {P:Program} {c:Code} {Q:Exit->Act->World->Prop} {a:Act} {w:World} (h:c.wp P (regOnly (Q .normal)) a w):c.wp P Q a w:=
 wp_mono h fun e a w h=>by
  cases e with
  |normal=>exact h
  |_=>exact h.elim
theorem S_keepK {k:IntKind} {X Y:World} {base:Nat} {ok:Nat->Prop} {v:Value} {xs:List (List Int)} {e t:Nat} (h:Kd.S (dM e k) t X base ok v xs) (hm: ∀(q:Nat) (o:Obj),X.heap[q]?=some o->o.isCells=true->Y.heap[q]?=X.heap[q]?):Kd.S (dM e k) t Y base ok v xs:=by
 refine Kd.cPz (Kd.S_move (Kd.bDz h) (fun q hq=> ?_)) (fun q hq=>hq.1);obtain ⟨-, -,hlt,z, -,cells,hc⟩:=hq;exact hm q _ hc rfl
theorem S_cell {e t:Nat} {k:IntKind} {W:World} {base o n cap:Nat} {ok:Nat->Prop} {rows:List (List Int)} (h:Kd.S (dM e k) t W base ok (.slice (some ⟨o,0,none⟩) n cap) rows) (i:Nat) (hi:i<n): ∃v,W.cell? ⟨o,i,none⟩=some v/\W.frozen? ⟨o,i,none⟩=false:=by
 obtain ⟨oki,c,hcl,hM,hcc,hfr,a0,hH⟩:=Kd.S_elem h ([] :List Int) (i:Int) (by omega) (by omega);obtain ⟨u,rfl,hu⟩:=hM;have h0:=hcc 0 _ rfl;have h1:=hfr 0;rw [Zu,show (dM e k).sz=1 from rfl,Nat.mul_one,Nat.add_zero] at h0 h1;exact ⟨_,h0,h1⟩
end Go.Proofs.Xc
end
