-- Joined texts of this work (wip/tools/bundle.py).
import Derived.Test.YtpdakdcmahlghaaGreatBReconWhich14
set_option maxHeartbeats 4000000
set_option maxRecDepth 100000
set_option linter.unusedVariables false
set_option linter.unusedSimpArgs false
section
namespace Go.Proofs.Xc
open Go.RowKit Go.Proofs.Pw Go.Proofs.Pl Go.Proofs.Pm Tryz
attribute [local go_sem] a7z a8z bgz bhz aVz aWz a9z baz
theorem d3z (a b:Nat) (ha:a<2^62) (hb:b<2^62):Go.bits .xor .i64 (a:Int) (b:Int)=((a^^^b:Nat):Int):=by
 have h:a^^^b<2^62:=Nat.xor_lt_two_pow ha hb;show IntKind.i64.wrap ((BitVec.ofInt 64 (a:Int)^^^BitVec.ofInt 64 (b:Int)).toNat:Int)=_;rw [BitVec.toNat_xor,ofInt64 a (by omega),ofInt64 b (by omega),IntKind.wrap_i64];omega
theorem dHz {wb:Int} (hw:wb=8\/wb=16):(fsize wb=256/\wb=8)\/(fsize wb=65536/\wb=16):=by
 rcases hw with rfl|rfl
 ·exact .inl ⟨rfl,rfl⟩
 ·exact .inr ⟨rfl,rfl⟩
theorem eQz {wb:Int} (hw:wb=8\/wb=16) {a b:Int} (ha:0<=a/\a<fsize wb) (hb:0<=b/\b<fsize wb):0<=Go.bits .xor .i64 a b/\Go.bits .xor .i64 a b<fsize wb:=by
 obtain ⟨x,rfl⟩: ∃x:Nat,a=x:=⟨a.toNat,by omega⟩;obtain ⟨y,rfl⟩: ∃y:Nat,b=y:=⟨b.toNat,by omega⟩;rcases dHz hw with ⟨e, -⟩|⟨e, -⟩<;>rw [e] at ha hb|-
 ·have:=Nat.xor_lt_two_pow (x:=x) (y:=y) (n:=8) (by omega) (by omega);rw [d3z x y (by omega) (by omega)];omega
 ·have:=Nat.xor_lt_two_pow (x:=x) (y:=y) (n:=16) (by omega) (by omega);rw [d3z x y (by omega) (by omega)];omega
def Good (wb:Int) (L:Nat) (row:List Int):Prop:=row.length=L/\ ∀x,x∈row->0<=x/\x<fsize wb
theorem zip_good {wb:Int} {L:Nat} (f:Int->Int->Int) {r p:List Int} (hr:Good wb L r) (hp:Good wb L p) (hf: ∀x y,(0<=x/\x<fsize wb)->(0<=y/\y<fsize wb)->0<=f x y/\f x y<fsize wb):Good wb L (List.zipWith f r p):=by
 refine ⟨by rw [List.length_zipWith,hr.1,hp.1,Nat.min_self],fun x hx=> ?_⟩;obtain ⟨i,hi,rfl⟩:=List.getElem_of_mem hx;rw [List.getElem_zipWith];exact hf _ _ (hr.2 _ (List.getElem_mem _)) (hp.2 _ (List.getElem_mem _))
theorem fAz {wb:Int} (hw:wb=8\/wb=16) (L c:Nat) (rows:List (List Int)) (at_:Nat) (h: ∀r,r∈rows->Good wb L r):(∀r,r∈(redStep wb c rows at_).1->Good wb L r)/\(redStep wb c rows at_).1.length=rows.length:=by
 unfold redStep;have hz:=dXz (nzB c) (rows.drop at_)
 generalize idxF (nzB c) (rows.drop at_)=z at *
 dsimp only;by_cases hneg:z<0
 ·rw [Ya hneg];exact ⟨h,rfl⟩
 ·rw [Yb hneg];rw [List.length_drop] at hz;have h1: ∀r,r∈swapL rows at_ (at_+z.toNat)->Good wb L r:=fun r hr=>h r (swapL_mem _ _ _ _ hr)
  have hl:=dsz rows at_ (at_+z.toNat)
  generalize swapL rows at_ (at_+z.toNat)=r1 at *
  have hp:Good wb L (r1.getD at_ []):=by
   rw [Zm,Zf (show at_<r1.length by omega)];exact h1 _ (List.getElem_mem _)
  generalize r1.getD at_ [] =pr at *
  have a0:Good wb L (List.zipWith (fun x _=>gmul wb x (ginv wb (pr.getD c 0))) pr pr):=zip_good _ hp hp (fun x y _ _=>bIz hw _ _)
  generalize List.zipWith (fun x _=>gmul wb x (ginv wb (pr.getD c 0))) pr pr=p2 at *
  refine ⟨fun r hr=> ?_,by rw [cqz,List.length_set,hl]⟩;unfold clrAll at hr;rw [List.mem_mapIdx] at hr;obtain ⟨i,hi,rfl⟩:=hr
  have hg:Good wb L (r1.set at_ p2)[i] :=by
   rcases List.mem_or_eq_of_mem_set (List.getElem_mem hi) with h3|h3
   ·exact h1 _ h3
   ·rw [h3];exact a0
  split
  ·exact hg
  ·exact zip_good _ hg a0 (fun x y hx hy=>eQz hw hx (bIz hw _ _))
theorem redF_good {wb:Int} (hw:wb=8\/wb=16) (L:Nat): ∀(k c:Nat) (rows:List (List Int)) (at_:Nat),(∀r,r∈rows->Good wb L r)->(∀r,r∈(redF wb k c rows at_).1->Good wb L r)/\(redF wb k c rows at_).1.length=rows.length
 |0,_,rows,_,h=>⟨h,rfl⟩
 |k+1,c,rows,at_,h=>by
  unfold redF;split
  ·exact ⟨h,rfl⟩
  ·have h1:=fAz hw L c rows at_ h;have h2:=redF_good hw L k (c+1) _ (redStep wb c rows at_).2 h1.1;exact ⟨h2.1,h2.2.trans h1.2⟩
theorem eiz {wb:Int} (hw:wb=8\/wb=16) (a:Int) (n:Nat):0<=gpow wb a n/\gpow wb a n<fsize wb:=by
 have hz:(0:Int)<fsize wb:=by rcases hw with rfl|rfl<;>decide
 unfold gpow;split
 ·rename_i h
  simp only [Bool.and_eq_true,inF,decide_eq_true_eq] at h;exact ⟨by omega,gpwN_lt hw (by omega) _⟩
 ·omega
theorem Raw1.calls (g fb:Nat) (wb:Int) (S:Nat->Prop) (i j:Nat) (W:World) (hw:wb=8\/wb=16) (hF:Fd W g wb (fpoly wb) S) (hS: ∀k,S k->k<W.heap.size) (hb:W.heap[fb]?=some (.cells #[.pointer (some ⟨g,0,none⟩)] 72 (0,0))) (hi:i<=100) (hj:j<=100):
  Calls prog 183 #[.int .i64 (i:Int), .int .i64 (j:Int), .pointer (some ⟨fb,0,none⟩)] W fun e w'=>e= .returned (.int .i64 (gpow wb (i:Int) (j:Int)))/\Fd w' g wb (fpoly wb) S/\BB W w' g:=by
 have hc:W.cell? ⟨fb,0,none⟩=some (.pointer (some ⟨g,0,none⟩)):=(abz hb 0).trans rfl;have HP:=Za (gf_Pow.calls g S wb (i:Int) j W (by omega) hw hF hS);clear hF hS hw hb;go_enter func183,ntmps183
 go_wp2_with (first|(go_at_call 122;refine HP.o.mono ?_;rintro e w3 ⟨rfl,q1,q2⟩))
 go_ret;exact ⟨rfl,q1,q2⟩
theorem fits.calls (g k m:Nat) (W:World) (h1:1<=k) (h2:1<=m) (h3:k<20) (h4:m<20) (h5:k+m<=20):
  Calls prog 119 #[.pointer (some ⟨g,0,none⟩), .int .i64 (k:Int), .int .i64 (m:Int)] W fun e w'=>e= .returned (.bool true)/\w'=W:=by
 have e1:decide ((1:Int)<=(k:Int))=true:=by simp;omega
 have e2:decide ((1:Int)<=(m:Int))=true:=by simp;omega
 have e3:decide ((k:Int)<20)=true:=by simp;omega
 have e4:decide ((m:Int)<20)=true:=by simp;omega
 have e5:(k:Int)+(m:Int)<=20:=by omega
 have e6:wrap64 ((k:Int)+(m:Int))=(k:Int)+(m:Int):=by unfold wrap64;omega
 go_enter func119,ntmps119;go_wp2;go_ret;simp
theorem Isal1.calls (g fb:Nat) (wb:Int) (S:Nat->Prop) (i j:Nat) (W:World) (hw:wb=8\/wb=16) (hF:Fd W g wb (fpoly wb) S) (hS: ∀k,S k->k<W.heap.size) (hb:W.heap[fb]?=some (.cells #[.pointer (some ⟨g,0,none⟩)] 72 (0,0))) (hi:i<=100) (hj:j<=100):
  Calls prog 121 #[.int .i64 (i:Int), .int .i64 (j:Int), .pointer (some ⟨fb,0,none⟩)] W fun e w'=>e= .returned (.int .i64 (gpow wb (gpow wb 2 (i:Int)) (j:Int)))/\Fd w' g wb (fpoly wb) S/\BB W w' g:=by
 have hc:W.cell? ⟨fb,0,none⟩=some (.pointer (some ⟨g,0,none⟩)):=(abz hb 0).trans rfl
 have hne:fb≠g:=by
  obtain ⟨c0,hg⟩:=Fd.cells hF;rintro rfl;rw [hb] at hg;injection hg with hg
  injection hg with _ hg
  exact Yf hg (by decide)
 have HP:=Za (gf_Pow.calls g S wb 2 i W.drew (by omega) hw hF.drew hS);have HQ:=Za (fun (w3:World) (q1:Fd w3 g wb (fpoly wb) S) (q2:BB W.drew w3 g)=>gf_Pow.calls g S wb (gpow wb 2 i) j w3 (by omega) hw q1 (fun k hk=>Zp (hS k hk) q2.size));have HC:=Za (show∀w3,BB W.drew w3 g->w3.cell? ⟨fb,0,none⟩=some (.pointer (some ⟨g,0,none⟩)) from fun w3 q=>(abz ((q.block fb (aUz hb) hne).trans hb) 0).trans rfl);clear hF hS hw hb hne;go_enter func121,ntmps121;go_wp2;refine ccz (n:=7) (S:=fun w'=>w'.cell? ⟨fb,0,none⟩=some (.pointer (some ⟨g,0,none⟩))) (ds:= [5]) (bA 7 0) kr_ rfl rfl (hc) (fun hHeld=> ?_);refine pu_ 2 8 4 ?_;refine pu_ 4 10 20 ?_;refine tk_ 0 6 21 hHeld ?_;refine tk_ 1 7 23 hHeld ?_;refine one_ (i:=3) (N:=some 9) (bA 7 31) rfl rfl kr_ (by decide) (fun K hK=> ?_);refine goes_ func122 kr_ rfl #[.pointer (some ⟨g,0,none⟩), .int .i64 2, .int .i64 (i:Int)] (by rfl) rfl rfl am_ ?_
 with_reducible refine (HP.o).mono ?_
 rintro e w3 ⟨rfl,q1,q2⟩;refine ⟨_,rfl,?_⟩;have a0:=HC.o w3 q2;have b0:=Za (HQ.o w3 q1 q2);have Q2:=Za q2;clear q1 q2;refine hK.out _ _ (a0) (fun hHeld=> ?_);clear hK K;refine norm_ (a':= ?_) ?_ ?_;rotate_left
 ·show Act.put _ (some 9) _=_;simp only [Act.put,Zg,Zh,Zi,i64_w,i32_w];rfl
 refine last_ (i:=5) (N:=some 11) (bA 7 63) rfl rfl kr_ (by decide) (fun K hK=> ?_);refine goes_ func122 kr_ rfl #[.pointer (some ⟨g,0,none⟩), .int .i64 (gpow wb 2 (i:Int)), .int .i64 (j:Int)] (by rfl) rfl rfl am_ ?_
 with_reducible refine (b0.o).mono ?_
 rintro e w4 ⟨rfl,q1,q2⟩;refine ⟨_,rfl,?_⟩;refine hK.out _ _ ?_;clear hK K;refine norm_ (a':= ?_) ?_ ?_;rotate_left
 ·show Act.put _ (some 11) _=_;simp only [Act.put,Zg,Zh,Zi,i64_w,i32_w];rfl
 refine pu_ 6 5 127 ?_;refine done_ kr_ ?_;go_wp2;go_ret;exact ⟨rfl,q1,⟨q2.os.trans Q2.o.os,q2.tape.trans Q2.o.tape,q2.output.trans Q2.o.output,Zt Q2.o.size q2.size,fun i hi hg=>(q2.block i (Zp hi Q2.o.size) hg).trans (Q2.o.block i hi hg)⟩⟩
def madeF (tf:Nat->Nat->Int) (rows cols:Nat):List (List Int):=(List.range rows).map fun i=>(List.range cols).map (tf i)
theorem fbz (tf:Nat->Nat->Int) (k cols:Nat):madeF tf (k+1) cols=madeF tf k cols++ [(List.range cols).map (tf k)] :=by simp [madeF,List.range_succ]
theorem d9z (f:Nat->Int) (n:Nat):(List.range (n+1)).map f=(List.range n).map f++ [f n] :=by simp [List.range_succ]
theorem fb_ne {W:World} {g fb:Nat} {wb p:Int} {S:Nat->Prop} {cs:Array Value} {t:Nat} (hF:Fd W g wb p S) (hb:W.heap[fb]?=some (.cells cs t (0,0))) (ht:t≠172):fb≠g:=by
 obtain ⟨a0,hg⟩:=Fd.cells hF;rintro rfl;rw [hb] at hg;injection hg with hg
 injection hg with _ hg
 exact ht hg
theorem Fd.appended {X Y:World} {g:Nat} {wb p:Int} {S:Nat->Prop} {v v1:Value} (h:Fd X g wb p (fun q=>S q\/some q=v.ownBlock)) (hg:X.grownBy Y v.ownBlock) (hat:v1.ownBlock=v.ownBlock\/ ∃b,v1.ownBlock=some b/\X.heap.size<=b):Fd Y g wb p (fun q=>S q\/some q=v1.ownBlock):=by
 refine (Fd.grow h (fun k e=> .inr e.symm) hg).thin (fun q hq hs=> ?_);rcases hs with hs|hs
 ·exact .inl (.inl hs)
 ·rcases hat with hat|⟨bb,hat,hbb⟩
  ·exact .inl (.inr (hs.trans hat))
  ·rw [hat] at hs;cases hs;exact .inr hbb
theorem S_join {wq w2:World} {g B e t gt:Nat} {a0:Array Value} {u uv:Value} {xs:List (List Int)} {R:List Int} (HO:Kd.S (dM e .i64) t wq B (fun _=>True) u xs) (hg:wq.heap[g]?=some (.cells a0 gt (0,0))) (ht: ∀q,q∈t::(dM e .i64).E->q≠gt) (hb:BB wq w2 g) (hR:(Kd.int .i64).R e w2 wq.heap.size (fun _=>True) uv R) (hB:B<=wq.heap.size):
    Kd.S (dM e .i64) t w2 B (fun k'=>True/\ ¬wq.heap.size<=k') u xs/\(dM e .i64).M w2 B (fun k'=>wq.heap.size<=k') R [uv] /\(∀k',wq.heap.size<=k'->True/\some k'≠u.ownBlock):=
  ⟨Kd.cPz (Kd.S_move (Kd.bDz (Kd.S_types HO hg ht)) (fun q hq=>hb.block q hq.2.2.1 hq.1.2)) (fun q hq=>⟨trivial,by have:=hq.2.2.1;omega⟩),
   ⟨_,rfl,Kd.bCz (Kd.aKz (Kd.bUz hR) (fun q hq=>hq.2.1)) hB⟩,
   fun q hq=>⟨trivial,fun e=>by have:=Kd.R_lt (Kd.S_R HO) q e.symm;omega⟩⟩
theorem madeRaw.calls (g fb:Nat) (wb:Int) (S:Nat->Prop) (rows cols:Nat) (W:World) (hw:wb=8\/wb=16) (hF:Fd W g wb (fpoly wb) S) (hS: ∀k,S k->k<W.heap.size) (hb:W.heap[fb]?=some (.cells #[.pointer (some ⟨g,0,none⟩)] 72 (0,0))) (hr:rows<=100) (hc:cols<=100):
  Calls prog 120 #[.int .i64 (rows:Int), .int .i64 (cols:Int), .func (.func 183) #[] #[.pointer (some ⟨fb,0,none⟩)]] W fun e w'=> ∃v,e= .returned v/\Kd.S (dM 3 .i64) 57 w' W.heap.size (fun _=>True) v (madeF (fun (i j:Nat)=>gpow wb (i:Int) (j:Int)) rows cols)/\Fd w' g wb (fpoly wb) S/\BB W w' g:=by
 have HW:=Za hw;have HS:=Za hS;have HB:=Za hb;have K0:=Za (fb_ne hF hb (by decide));have HF:=Za (show Fd W g wb (fpoly wb) (fun q=>S q\/some q=(Value.slice none 0 0).ownBlock) from hF.thin (fun q _ hs=>hs.elim id (fun e=>by simp [Value.ownBlock] at e)));obtain ⟨tf,q0⟩: ∃tf:Nat->Nat->Int,(fun (i j:Nat)=>gpow wb (i:Int) (j:Int))=tf:=⟨_,rfl⟩;rw [q0]
 have HT:=Za (show∀(i j:Nat) (S':Nat->Prop) (w:World),Fd w g wb (fpoly wb) S'->(∀k,S' k->k<w.heap.size)->BB W w g->i<=100->j<=100->Calls prog 183 #[.int .i64 (i:Int), .int .i64 (j:Int), .pointer (some ⟨fb,0,none⟩)] w fun e w'=>e= .returned (.int .i64 (tf i j))/\Fd w' g wb (fpoly wb) S'/\BB w w' g by
  intro i j S' w h1 h2 h3 h4 h5;subst q0
  exact Raw1.calls g fb wb S' i j w hw h1 h2 ((h3.block fb (aUz hb) (fb_ne hF hb (by decide))).trans hb) h4 h5)
 clear hw hF hS hb q0;go_enter func120,ntmps120;go_wp2
 go_loopw [7,12] (fun v i wr=> ∃k:Nat,k<=rows/\i= .int .i64 (k:Int)/\Aside0 (Kd.S (dM 3 .i64) 57 wr W.heap.size (fun _=>True) v (madeF tf k cols))/\Aside0 (Fd wr g wb (fpoly wb) (fun q=>S q\/some q=v.ownBlock))/\Aside0 (BB W wr g)) (fun _ i _=>rows - (intOf i).toNat)
 case atStart=>exact ⟨0,Nat.zero_le _,rfl,⟨Kd.S_nil _ _ _ _ _⟩,HF,⟨BB.refl _ _⟩⟩
 clear HF;obtain ⟨wq,rfl⟩: ∃wq,wq=wr:=⟨_,rfl⟩;obtain ⟨k,hk,rfl,HO,HF,d0⟩:=hrel;by_cases hlt:k<rows
 ·have f0:=Za (show Fd wq g wb (fpoly wb) (fun q=>(S q\/some q=u7.ownBlock)\/some q=(Value.slice none 0 0).ownBlock) from HF.o.thin (fun q _ hs=>hs.elim id (fun e=>by simp [Value.ownBlock] at e)));go_wp2
  go_loopw [9,16] (fun u j w2=> ∃n:Nat,n<=cols/\j= .int .i64 (n:Int)/\Aside0 ((Kd.int .i64).R 3 w2 wq.heap.size (fun _=>True) u ((List.range n).map (tf k)))/\Aside0 (Fd w2 g wb (fpoly wb) (fun q=>(S q\/some q=u7.ownBlock)\/some q=u.ownBlock))/\Aside0 (BB wq w2 g)) (fun _ j _=>cols - (intOf j).toNat)
  case atStart=>exact ⟨0,Nat.zero_le _,rfl,⟨Kd.R_nil _ _ _ _ _⟩,f0,⟨BB.refl _ _⟩⟩
  clear f0;obtain ⟨w2,rfl⟩: ∃w2,w2=wr:=⟨_,rfl⟩;obtain ⟨n,hn,rfl,HR,f0,e0⟩:=hrel;by_cases A0:n<cols
  ·have hSS : ∀ q, ((S q \/ some q = u7.ownBlock) \/ some q = u9.ownBlock) -> q < w2.heap.size := by
    have s1:=e0.o.size;have s2:=d0.o.size;rintro q ((h|h)|h)
    ·have:=HS.o q h;omega
    ·have:=Kd.R_lt (Kd.S_R HO.o) q h.symm;omega
    ·exact Kd.R_lt HR.o q h.symm
   have o0:=Za (HT.o k n _ w2 f0.o hSS (d0.o.trans e0.o) (by omega) (by omega));have B0:=Za (show wq.heap.size<=w2.heap.size from e0.o.size);obtain ⟨J0,a0⟩:=Fd.cells f0.o;have n0:=Za (show∀w3,BB w2 w3 g->(Kd.int .i64).R 3 w3 wq.heap.size (fun _=>True) u9 ((List.range n).map (tf k)) from fun w3 D0=>Kd.aKz (Kd.dpz (Kd.dSz HR.o a0 (by decide)) (fun q hq hlt=>D0.block q hlt hq.2)) (fun _ _=>trivial));have v0:=Za (show ((List.range n).map (tf k)).length<=100 by simp;omega);have r0:=Za (d9z (tf k) n);generalize (List.range n).map (tf k)=pre at HR n0 v0 r0;generalize tf k n=z at o0 r0;clear hSS a0
   go_wp2_with fail
   refine o0.o.mono ?_;rintro e w3 ⟨rfl,q1,q2⟩;have C0:=Za (n0.o w3 q2);have G0:=Za q1;have h0:=Za (e0.o.trans q2);have I0:=Za (Zt B0.o q2.size);clear q1 q2 o0 n0
   go_wp2_with ((with_reducible refine amz (b:= .append) (xs:= #[.tmp 19, .tmp 24]) rfl ?_);go_must (at_builtin;refine Kd.brz (Kd.int .i64) (w0:=w3) wq.heap.size rfl (.tmp 19) (.tmp 24) 57 3 (.int .i64 0) 8 rfl underlying57 kr_ rfl (by decide) (by decide) _ _ z [.int .i64 z] (fun _=>True) (fun _=>False) rfl rfl rfl (fun _ h=>h.elim) (fun _ _=>trivial) C0.o (Zw _ _) I0.o (by have:=v0.o;omega) ?_);intro v2 w4 j0 g0 i0 c0;have k0:=Za j0;have b0:=Za g0;have l0:=Za (show w3.grownBy w4 u9.ownBlock from i0);have p0:=Za (show v2.ownBlock=u9.ownBlock\/ ∃b,v2.ownBlock=some b/\w3.heap.size<=b from c0);clear j0 g0 i0 c0)
   go_roundw
   case rel=>exact ⟨n+1,by omega,by go_num,⟨by rw [r0.o];exact k0.o⟩,⟨Fd.appended G0.o l0.o p0.o⟩,⟨h0.o.os▸b0.o.os,h0.o.tape▸b0.o.tape,h0.o.output▸b0.o.output,Zt h0.o.size b0.o.size,fun i hi hg=>(b0.o.block i hi).trans (h0.o.block i hi hg)⟩⟩
   case measure=>simp [intOf];omega
  ·obtain rfl:n=cols:=by omega
   obtain ⟨J0,a0⟩:=Fd.cells HF.o;have hj:=S_join HO.o a0 (by decide) e0.o HR.o d0.o.size;have H0:=Za (show (madeF tf k n).length<=1000 by simp [madeF];omega);obtain ⟨va,vc,rfl⟩:=Kd.aQz HR.o;have t0:=Za (fbz tf k n)
   generalize ((List.range n).map (tf k)).length=nn at *
   generalize (List.range n).map (tf k)=R at hj t0;have y0:=Za hj.1;have z0:=Za hj.2.1;have F0:=Za hj.2.2;have u0:=Za (show W.heap.size<=w2.heap.size from Zt d0.o.size e0.o.size);have E0:=Za (show Fd w2 g wb (fpoly wb) (fun q=>S q\/some q=u7.ownBlock) from f0.o.thin (fun q _ hs=> .inl hs));clear hj a0 f0 HR
   go_wp2_with ((with_reducible refine amz (b:= .append) (xs:= #[.tmp 27, .tmp 29]) rfl ?_);go_must (at_builtin;refine Kd.bLz (dM 3 .i64) (w0:=w2) W.heap.size rfl (.tmp 27) (.tmp 29) 69 57 (.slice none 0 0) 24 rfl underlying69 kr_ rfl (by decide) (by decide) _ _ R [.slice va nn vc] (fun _=>True) (fun k'=>wq.heap.size<=k') rfl rfl z0.o F0.o (fun _ _=>trivial) y0.o (Zw _ _) u0.o (by have:=H0.o;omega) ?_);intro v2 w4 j0 g0 i0 c0;have k0:=Za j0;have b0:=Za g0;have l0:=Za (show w2.grownBy w4 u7.ownBlock from i0);have p0:=Za (show v2.ownBlock=u7.ownBlock\/ ∃b,v2.ownBlock=some b/\w2.heap.size<=b from c0);clear j0 g0 i0 c0)
   go_roundw
   case rel=>exact ⟨k+1,by omega,by go_num,⟨by rw [t0.o];exact k0.o⟩,⟨Fd.appended E0.o l0.o p0.o⟩,⟨⟨b0.o.os.trans (e0.o.os.trans d0.o.os),b0.o.tape.trans (e0.o.tape.trans d0.o.tape),b0.o.output.trans (e0.o.output.trans d0.o.output),Zt u0.o b0.o.size,fun i hi hg=>(b0.o.block i hi).trans ((e0.o.block i (Zp hi d0.o.size) hg).trans (d0.o.block i hi hg))⟩⟩⟩
   case measure=>simp [intOf];omega
 ·obtain rfl:k=rows:=by omega
  have k0:=Za HO.o;go_wp2;go_ret;exact ⟨_,rfl,k0.o,HF.o.thin (fun q _ hs=> .inl hs),d0.o⟩
theorem madeIsal.calls (g fb:Nat) (wb:Int) (S:Nat->Prop) (rows cols:Nat) (W:World) (hw:wb=8\/wb=16) (hF:Fd W g wb (fpoly wb) S) (hS: ∀k,S k->k<W.heap.size) (hb:W.heap[fb]?=some (.cells #[.pointer (some ⟨g,0,none⟩)] 72 (0,0))) (hr:rows<=100) (hc:cols<=100):
  Calls prog 120 #[.int .i64 (rows:Int), .int .i64 (cols:Int), .func (.func 121) #[] #[.pointer (some ⟨fb,0,none⟩)]] W fun e w'=> ∃v,e= .returned v/\Kd.S (dM 3 .i64) 57 w' W.heap.size (fun _=>True) v (madeF (fun (i j:Nat)=>gpow wb (gpow wb 2 (i:Int)) (j:Int)) rows cols)/\Fd w' g wb (fpoly wb) S/\BB W w' g:=by
 have HW:=Za hw;have HS:=Za hS;have HB:=Za hb;have K0:=Za (fb_ne hF hb (by decide));have HF:=Za (show Fd W g wb (fpoly wb) (fun q=>S q\/some q=(Value.slice none 0 0).ownBlock) from hF.thin (fun q _ hs=>hs.elim id (fun e=>by simp [Value.ownBlock] at e)));obtain ⟨tf,q0⟩: ∃tf:Nat->Nat->Int,(fun (i j:Nat)=>gpow wb (gpow wb 2 (i:Int)) (j:Int))=tf:=⟨_,rfl⟩;rw [q0]
 have HT:=Za (show∀(i j:Nat) (S':Nat->Prop) (w:World),Fd w g wb (fpoly wb) S'->(∀k,S' k->k<w.heap.size)->BB W w g->i<=100->j<=100->Calls prog 121 #[.int .i64 (i:Int), .int .i64 (j:Int), .pointer (some ⟨fb,0,none⟩)] w fun e w'=>e= .returned (.int .i64 (tf i j))/\Fd w' g wb (fpoly wb) S'/\BB w w' g by
  intro i j S' w h1 h2 h3 h4 h5;subst q0
  exact Isal1.calls g fb wb S' i j w hw h1 h2 ((h3.block fb (aUz hb) (fb_ne hF hb (by decide))).trans hb) h4 h5)
 clear hw hF hS hb q0;go_enter func120,ntmps120;go_wp2
 go_loopw [7,12] (fun v i wr=> ∃k:Nat,k<=rows/\i= .int .i64 (k:Int)/\Aside0 (Kd.S (dM 3 .i64) 57 wr W.heap.size (fun _=>True) v (madeF tf k cols))/\Aside0 (Fd wr g wb (fpoly wb) (fun q=>S q\/some q=v.ownBlock))/\Aside0 (BB W wr g)) (fun _ i _=>rows - (intOf i).toNat)
 case atStart=>exact ⟨0,Nat.zero_le _,rfl,⟨Kd.S_nil _ _ _ _ _⟩,HF,⟨BB.refl _ _⟩⟩
 clear HF;obtain ⟨wq,rfl⟩: ∃wq,wq=wr:=⟨_,rfl⟩;obtain ⟨k,hk,rfl,HO,HF,d0⟩:=hrel;by_cases hlt:k<rows
 ·have f0:=Za (show Fd wq g wb (fpoly wb) (fun q=>(S q\/some q=u7.ownBlock)\/some q=(Value.slice none 0 0).ownBlock) from HF.o.thin (fun q _ hs=>hs.elim id (fun e=>by simp [Value.ownBlock] at e)));go_wp2
  go_loopw [9,16] (fun u j w2=> ∃n:Nat,n<=cols/\j= .int .i64 (n:Int)/\Aside0 ((Kd.int .i64).R 3 w2 wq.heap.size (fun _=>True) u ((List.range n).map (tf k)))/\Aside0 (Fd w2 g wb (fpoly wb) (fun q=>(S q\/some q=u7.ownBlock)\/some q=u.ownBlock))/\Aside0 (BB wq w2 g)) (fun _ j _=>cols - (intOf j).toNat)
  case atStart=>exact ⟨0,Nat.zero_le _,rfl,⟨Kd.R_nil _ _ _ _ _⟩,f0,⟨BB.refl _ _⟩⟩
  clear f0;obtain ⟨w2,rfl⟩: ∃w2,w2=wr:=⟨_,rfl⟩;obtain ⟨n,hn,rfl,HR,f0,e0⟩:=hrel;by_cases A0:n<cols
  ·have hSS : ∀ q, ((S q \/ some q = u7.ownBlock) \/ some q = u9.ownBlock) -> q < w2.heap.size := by
    have s1:=e0.o.size;have s2:=d0.o.size;rintro q ((h|h)|h)
    ·have:=HS.o q h;omega
    ·have:=Kd.R_lt (Kd.S_R HO.o) q h.symm;omega
    ·exact Kd.R_lt HR.o q h.symm
   have o0:=Za (HT.o k n _ w2 f0.o hSS (d0.o.trans e0.o) (by omega) (by omega));have B0:=Za (show wq.heap.size<=w2.heap.size from e0.o.size);obtain ⟨J0,a0⟩:=Fd.cells f0.o;have n0:=Za (show∀w3,BB w2 w3 g->(Kd.int .i64).R 3 w3 wq.heap.size (fun _=>True) u9 ((List.range n).map (tf k)) from fun w3 D0=>Kd.aKz (Kd.dpz (Kd.dSz HR.o a0 (by decide)) (fun q hq hlt=>D0.block q hlt hq.2)) (fun _ _=>trivial));have v0:=Za (show ((List.range n).map (tf k)).length<=100 by simp;omega);have r0:=Za (d9z (tf k) n);generalize (List.range n).map (tf k)=pre at HR n0 v0 r0;generalize tf k n=z at o0 r0;clear hSS a0
   go_wp2_with fail
   refine o0.o.mono ?_;rintro e w3 ⟨rfl,q1,q2⟩;have C0:=Za (n0.o w3 q2);have G0:=Za q1;have h0:=Za (e0.o.trans q2);have I0:=Za (Zt B0.o q2.size);clear q1 q2 o0 n0
   go_wp2_with ((with_reducible refine amz (b:= .append) (xs:= #[.tmp 19, .tmp 24]) rfl ?_);go_must (at_builtin;refine Kd.brz (Kd.int .i64) (w0:=w3) wq.heap.size rfl (.tmp 19) (.tmp 24) 57 3 (.int .i64 0) 8 rfl underlying57 kr_ rfl (by decide) (by decide) _ _ z [.int .i64 z] (fun _=>True) (fun _=>False) rfl rfl rfl (fun _ h=>h.elim) (fun _ _=>trivial) C0.o (Zw _ _) I0.o (by have:=v0.o;omega) ?_);intro v2 w4 j0 g0 i0 c0;have k0:=Za j0;have b0:=Za g0;have l0:=Za (show w3.grownBy w4 u9.ownBlock from i0);have p0:=Za (show v2.ownBlock=u9.ownBlock\/ ∃b,v2.ownBlock=some b/\w3.heap.size<=b from c0);clear j0 g0 i0 c0)
   go_roundw
   case rel=>exact ⟨n+1,by omega,by go_num,⟨by rw [r0.o];exact k0.o⟩,⟨Fd.appended G0.o l0.o p0.o⟩,⟨h0.o.os▸b0.o.os,h0.o.tape▸b0.o.tape,h0.o.output▸b0.o.output,Zt h0.o.size b0.o.size,fun i hi hg=>(b0.o.block i hi).trans (h0.o.block i hi hg)⟩⟩
   case measure=>simp [intOf];omega
  ·obtain rfl:n=cols:=by omega
   obtain ⟨J0,a0⟩:=Fd.cells HF.o;have hj:=S_join HO.o a0 (by decide) e0.o HR.o d0.o.size;have H0:=Za (show (madeF tf k n).length<=1000 by simp [madeF];omega);obtain ⟨va,vc,rfl⟩:=Kd.aQz HR.o;have t0:=Za (fbz tf k n)
   generalize ((List.range n).map (tf k)).length=nn at *
   generalize (List.range n).map (tf k)=R at hj t0;have y0:=Za hj.1;have z0:=Za hj.2.1;have F0:=Za hj.2.2;have u0:=Za (show W.heap.size<=w2.heap.size from Zt d0.o.size e0.o.size);have E0:=Za (show Fd w2 g wb (fpoly wb) (fun q=>S q\/some q=u7.ownBlock) from f0.o.thin (fun q _ hs=> .inl hs));clear hj a0 f0 HR
   go_wp2_with ((with_reducible refine amz (b:= .append) (xs:= #[.tmp 27, .tmp 29]) rfl ?_);go_must (at_builtin;refine Kd.bLz (dM 3 .i64) (w0:=w2) W.heap.size rfl (.tmp 27) (.tmp 29) 69 57 (.slice none 0 0) 24 rfl underlying69 kr_ rfl (by decide) (by decide) _ _ R [.slice va nn vc] (fun _=>True) (fun k'=>wq.heap.size<=k') rfl rfl z0.o F0.o (fun _ _=>trivial) y0.o (Zw _ _) u0.o (by have:=H0.o;omega) ?_);intro v2 w4 j0 g0 i0 c0;have k0:=Za j0;have b0:=Za g0;have l0:=Za (show w2.grownBy w4 u7.ownBlock from i0);have p0:=Za (show v2.ownBlock=u7.ownBlock\/ ∃b,v2.ownBlock=some b/\w2.heap.size<=b from c0);clear j0 g0 i0 c0)
   go_roundw
   case rel=>exact ⟨k+1,by omega,by go_num,⟨by rw [t0.o];exact k0.o⟩,⟨Fd.appended E0.o l0.o p0.o⟩,⟨⟨b0.o.os.trans (e0.o.os.trans d0.o.os),b0.o.tape.trans (e0.o.tape.trans d0.o.tape),b0.o.output.trans (e0.o.output.trans d0.o.output),Zt u0.o b0.o.size,fun i hi hg=>(b0.o.block i hi).trans ((e0.o.block i (Zp hi d0.o.size) hg).trans (d0.o.block i hi hg))⟩⟩⟩
   case measure=>simp [intOf];omega
 ·obtain rfl:k=rows:=by omega
  have k0:=Za HO.o;go_wp2;go_ret;exact ⟨_,rfl,k0.o,HF.o.thin (fun q _ hs=> .inl hs),d0.o⟩
end Go.Proofs.Xc
end
section
namespace Go.Proofs.Xc
open Go.RowKit Go.Proofs.Pw Go.Proofs.Pl Go.Proofs.Pm Tryz
attribute [local go_sem] a7z a8z bgz bhz aVz aWz a9z baz
open Go.Maps Go.WideMaps
def cauM (wb:Int) (x y:List Int):List (List Int):=x.map fun a=>y.map fun b=>ginv wb (Go.bits .xor .i64 a b)
theorem Of.calls (g : Nat) (wb : Int) (S : Nat -> Prop) (A B : Option Addr) (ca cb : Nat) (x y : List Int) (W : World) (hw : wb = 8 \/ wb = 16) (hF : Fd W g wb (fpoly wb) S) (hS : ∀ k, S k -> k < W.heap.size)
  (hx:Kd.F (Kd.int .i64) W (NotG g) A x.length x) (hy:Kd.F (Kd.int .i64) W (NotG g) B y.length y) (D0:x.length<=ca) (hcb:y.length<=cb) (l1:1<=x.length) (u1:x.length<=20) (k1:1<=y.length) (D1:y.length<=20) (hr: ∀a,a∈x++y->0<=a/\a<fsize wb) (hnd:(x++y).Nodup):
  Calls prog 117 #[.pointer (some ⟨g,0,none⟩), .slice A x.length ca, .slice B y.length cb] W fun e w'=> ∃v,e= .returned (.tuple #[v, .int .i64 0])/\Kd.S (dM 3 .i64) 57 w' W.heap.size (fun _=>True) v (cauM wb x y)/\Fd w' g wb (fpoly wb) S/\BB W w' g:=by
 have HW:=Za hw;have HF:=Za hF;have HS:=Za hS;have HX:=Za hx;have HY:=Za hy;have HR:=Za hr;have P0:=Za hnd;have y1:=Za D0;have z1:=Za hcb;have v0:bvz.f (x.length:Int)=some true:=by unfold bvz.f;rw [Ya (by omega)];simp;omega
 have r0:bvz.f (y.length:Int)=some true:=by unfold bvz.f;rw [Ya (by omega)];simp;omega
 have S0:=Za v0;have U0:=Za r0;obtain ⟨nx,hnx⟩: ∃n,x.length=n:=⟨_,rfl⟩;obtain ⟨ny,hny⟩: ∃n,y.length=n:=⟨_,rfl⟩;have n0:=Za hnx;have o0:=Za hny;rw [hnx] at l1 u1 S0|-;rw [hny] at k1 D1 U0|-;have hmm:= @run_makeMap prog;clear hw hF hS hx hy hr hnd v0 r0 hnx hny D0 hcb;go_enter func117,ntmps117
 go_wp2_with fail
 refine (bvz.calls (nx:Int) true _ S0.o).mono ?_;rintro e w1 ⟨rfl,n1,rfl⟩
 go_wp2_with fail
 refine (bvz.calls (ny:Int) true _ U0.o).mono ?_;rintro e w2 ⟨rfl,n2,rfl⟩;have O0:=Za (show Below W.heap.size W ((W.drewN n1).drewN n2) from a2z (a2z (Zw _ _) _) _);have G0:W.heap.size=((W.drewN n1).drewN n2).heap.size:=rfl;generalize (W.drewN n1).drewN n2=w0 at O0 G0|-;have X0:=Za (MapSet.made w0);have z0:=Za (show Below W.heap.size W (w0.alloc (.map #[] 0)) from O0.o.trans (G0▸aoz (Zw _ _) _));have V0:=Kd.F_now (Kd.cVz HX.o z0.o);have Z0:=Kd.F_now (Kd.cVz HY.o z0.o);have hblk:((w0.alloc (.map #[] 0)).alloc (.cells #[.slice A nx ca, .slice B ny cb] 57)).heap[w0.heap.size+1]?=some (.cells #[.slice A nx ca, .slice B ny cb] 57 (0,0)):=bBz _ _ _ (by simp);have Y0:=C_two (e:=3) (by rw [n0.o,o0.o];exact hblk) (Kd.aMz V0 (aoz (Zw _ _) _)) y1.o (Kd.aMz Z0 (aoz (Zw _ _) _)) z1.o;have hcc:=concat_i.calls (some ⟨w0.heap.size+1,0,none⟩) 2 [x,y] _ Y0 (by simp) (by have:=n0.o;have:=o0.o;simp;omega)
 rw [show [x,y].flatten=x++y by simp] at hcc;have K0:=Za hcc;have C0:=Za (X0.o.below (aoz (Zw _ _) (.cells #[.slice A nx ca, .slice B ny cb] 57)));have a0:=Za (show Below W.heap.size W ((w0.alloc (.map #[] 0)).alloc (.cells #[.slice A nx ca, .slice B ny cb] 57)) from z0.o.trans ((aoz (Zw _ _) _).mono z0.o.size));have a1:=Za (show W.heap.size<=w0.heap.size from O0.o.size);obtain ⟨nl,hnl⟩: ∃nl,nx+ny=nl:=⟨_,rfl⟩;have hll:(x++y).length=nl:=by rw [List.length_append,n0.o,o0.o,hnl]
 have T0:nl<=40:=by omega
 obtain ⟨l,hl⟩: ∃l,x++y=l:=⟨_,rfl⟩;rw [hl] at K0 HR P0 hll;have HL:=Za hl;have B0:=Za hll;clear G0 V0 Z0 hblk Y0 hcc hl hll X0 z0 hnl
 go_wp2_with fail
 refine K0.o.mono ?_;rintro e w3 ⟨v,rfl,hv,u0⟩;obtain ⟨ua,uc,rfl⟩:=Kd.aQz hv;have HV:=Za hv;have N0:=Za (C0.o.below u0);have h0:=Za (a0.o.trans (u0.mono a0.o.size));rw [B0.o];rw [B0.o] at HV;generalize ((w0.alloc (.map #[] 0)).alloc (.cells #[.slice A nx ca, .slice B ny cb] 57)).heap.size=b0 at HV;generalize w0.heap.size=mb at N0 a1|-;clear hv u0 K0 C0 a0 hmm;go_wp2
 go_loopw [35] (fun i wr=> ∃k:Nat,k<=nl/\i= .int .i64 (k:Int)/\Aside0 (MapSet wr mb (l.take k))/\Aside0 ((Kd.int .i64).R 3 wr b0 (fun _=>True) (.slice ua (nl) uc) l)/\Aside0 (Below W.heap.size W wr)) (fun i _=>nl - (intOf i).toNat)
 case atStart=>exact ⟨0,Nat.zero_le _,rfl,N0,HV,h0⟩
 clear N0 HV h0;obtain ⟨k,hk,rfl,HM,HV,HB⟩:=hrel;by_cases hlt:k<nl
 ·obtain ⟨z,hz⟩: ∃z,l[k]?=some z:=⟨_,Zf (by have:=B0.o;omega)⟩;have Q0:Kd.C (Kd.int .i64) wr ua l.length l:=(Kd.aHz HV.o).2.2;obtain ⟨ad,rfl,hcell⟩:=cKz Q0 k z hz;have v1:=HR.o z (Zo hz);have F1: ¬z<0:=by omega
  have G1: ¬fsize wb<=z:=by omega
  have hwf:(Lit.int .i64 z).wf=true:=WalkArith.wf_i64 (by rcases dHz HW.o with ⟨e, -⟩|⟨e, -⟩<;>omega)
  have hzn:z∉l.take k:=by
   intro hm;obtain ⟨j,hj,e⟩:=List.getElem_of_mem hm;rw [List.getElem_take] at e;rw [List.length_take] at hj;have h1:=List.pairwise_iff_getElem.1 P0.o j k (by omega) (by have:=B0.o;omega) (by omega);obtain ⟨h2,h3⟩:=Zk hz;exact h1 (e.trans h3.symm)
  have H0:=Za (euz.calls g wb (fpoly wb) S wr (HF.o.below HB.o) HW.o);have j1:=Za (fun n=>(HM.o.below (a2z (Zw _ wr) n)).look hwf hzn);have HKEY:=Za (keyOf_int_mk underlying3 hwf);have m1:=Za (show l.take (k+1)=l.take k++ [z] by rw [List.take_add_one,hz];rfl);have p1:=Za (show (l.take k).length=k by rw [List.length_take];have:=B0.o;omega);clear hz Q0 v1 hwf hzn
  go_wp2_with fail
  refine H0.o.mono ?_;rintro e w4 ⟨rfl,n4,rfl⟩;have hlk:=j1.o n4;obtain ⟨D,ho,hmap,hd⟩:=HM.o.below (a2z (Zw _ wr) n4);have HO:=Za ho;have g1:=Za hmap;have HD:=Za hd;clear ho hmap hd
  go_wp2_with (at_mapUpdate;refine wpList_mapUpdate_own _ rfl _ _ _ 195 rfl 3 4 lawI underlying195 _ mb _ _ rfl HO.o ?hn _ _ _ rfl rfl HKEY.o _ [] (plainElem_bool underlying4 true) ?_;(case hn=>rw [p1.o];unfold maxLen;omega);intro w5 i0 e0;have r1:=Za i0;have b1:=Za e0;clear i0 e0)
  go_roundw
  case rel=>
   refine ⟨k+1,by omega,by go_num,⟨by rw [m1.o];exact MapSet.put g1.o HD.o r1.o⟩,⟨faz (Kd.dxz HV.o n4) b1.o (fun r e=>by cases e;exact (HM.o.below (a2z (Zw _ wr) n4)).noncells)⟩,⟨((a2z HB.o n4).grown b1.o HB.o.size (fun j hj=>by cases hj;exact a1.o))⟩⟩
  case measure=>simp [intOf];omega
 ·obtain rfl:k=nl:=by omega
  have W0:=Za (show Fd wr g wb (fpoly wb) (fun q=>S q\/some q=(Value.slice none 0 0).ownBlock) from (HF.o.below HB.o).thin (fun q _ hs=>hs.elim id (fun e=>by simp [Value.ownBlock] at e)));have y0:=Za (BB.of_below HB.o g);clear HM HV HB;go_wp2
  go_loopw [11,57] (fun v i wr=> ∃k:Nat,k<=nx/\i= .int .i64 (k:Int)/\Aside0 (Kd.S (dM 3 .i64) 57 wr W.heap.size (fun _=>True) v (cauM wb (x.take k) y))/\Aside0 (Fd wr g wb (fpoly wb) (fun q=>S q\/some q=v.ownBlock))/\Aside0 (BB W wr g)) (fun _ i _=>nx - (intOf i).toNat)
  case atStart=>exact ⟨0,Nat.zero_le _,rfl,⟨Kd.S_nil _ _ _ _ _⟩,W0,y0⟩
  clear W0 y0;obtain ⟨wq,rfl⟩: ∃wq,wq=wr:=⟨_,rfl⟩;obtain ⟨k,hk,rfl,HO,I0,d0⟩:=hrel;by_cases hlt:k<nx
  ·obtain ⟨a,ha⟩: ∃a,x[k]?=some a:=⟨_,Zf (by have:=n0.o;omega)⟩;obtain ⟨ad,rfl,D0⟩:=cKz (Kd.F_now (F_bb HX.o d0.o)) k a ha
   have HCM:=Za (show cauM wb (x.take (k+1)) y=cauM wb (x.take k) y++ [y.map fun b=>ginv wb (Go.bits .xor .i64 a b)] by
    unfold cauM;rw [List.take_add_one,ha];simp)
   have k0:=Za (show Fd wq g wb (fpoly wb) (fun q=>(S q\/some q=u11.ownBlock)\/some q=(Value.slice none 0 0).ownBlock) from I0.o.thin (fun q _ hs=>hs.elim id (fun e=>by simp [Value.ownBlock] at e)));clear ha;go_wp2
   go_loopw [14,63] (fun u j w2=> ∃n:Nat,n<=ny/\j= .int .i64 (n:Int)/\Aside0 ((Kd.int .i64).R 3 w2 wq.heap.size (fun _=>True) u ((y.take n).map fun b=>ginv wb (Go.bits .xor .i64 a b)))/\Aside0 (Fd w2 g wb (fpoly wb) (fun q=>(S q\/some q=u11.ownBlock)\/some q=u.ownBlock))/\Aside0 (BB wq w2 g)) (fun _ j _=>ny - (intOf j).toNat)
   case atStart=>exact ⟨0,Nat.zero_le _,rfl,⟨Kd.R_nil _ _ _ _ _⟩,k0,⟨BB.refl _ _⟩⟩
   clear k0 D0;obtain ⟨w2,rfl⟩: ∃w2,w2=wr:=⟨_,rfl⟩;obtain ⟨n,hn,rfl,j0,k0,a0⟩:=hrel;by_cases e1:n<ny
   ·have hSS : ∀ q, ((S q \/ some q = u11.ownBlock) \/ some q = u14.ownBlock) -> q < w2.heap.size := by
     have s1:=a0.o.size;have s2:=d0.o.size;rintro q ((h|h)|h)
     ·have:=HS.o q h;omega
     ·have:=Kd.R_lt (Kd.S_R HO.o) q h.symm;omega
     ·exact Kd.R_lt j0.o q h.symm
    obtain ⟨bv,hb⟩: ∃b,y[n]?=some b:=⟨_,Zf (by have:=o0.o;omega)⟩;obtain ⟨bd,rfl,hcb⟩:=cKz (Kd.F_now (F_bb HY.o (d0.o.trans a0.o))) n bv hb;have E0:=Za (gf_Inv.calls g _ wb (Go.bits .xor .i64 a bv) w2 HW.o k0.o hSS);have H0:=Za (show wq.heap.size<=w2.heap.size from a0.o.size);obtain ⟨E1,c0⟩:=Fd.cells k0.o;have J0:=Za (show∀w3,BB w2 w3 g->(Kd.int .i64).R 3 w3 wq.heap.size (fun _=>True) u14 ((y.take n).map fun b=>ginv wb (Go.bits .xor .i64 a b)) from fun w3 u0=>Kd.aKz (Kd.dpz (Kd.dSz j0.o c0 (by decide)) (fun q hq hlt=>u0.block q hlt hq.2)) (fun _ _=>trivial));have q0:=Za (show ((y.take n).map fun b=>ginv wb (Go.bits .xor .i64 a b)).length<=100 by simp;omega);have M0:=Za (show (y.take (n+1)).map (fun b=>ginv wb (Go.bits .xor .i64 a b))=(y.take n).map (fun b=>ginv wb (Go.bits .xor .i64 a b))++ [ginv wb (Go.bits .xor .i64 a bv)] by rw [List.take_add_one,hb];simp)
    have i1:(0:Int)<=(n:Int):=by omega
    have i2:(n:Int)<(ny:Int):=by omega
    generalize (y.take n).map (fun b=>ginv wb (Go.bits .xor .i64 a b))=pre at j0 J0 q0 M0;generalize ginv wb (Go.bits .xor .i64 a bv)=z at E0 M0;generalize hq:(inF wb (Go.bits .xor .i64 a bv)&&Go.bits .xor .i64 a bv !=0)=bz at E0;clear hSS c0 hb hq
    go_wp2_with fail
    refine E0.o.mono ?_;rintro e w3 ⟨rfl,q1,q2⟩;have f1:=Za (J0.o w3 q2);have A1:=Za q1;have h0:=Za (a0.o.trans q2);have C1:=Za (Zt H0.o q2.size);clear q1 q2 E0 J0 hcb
    go_wp2_with ((with_reducible refine amz (b:= .append) (xs:= #[.tmp 75, .tmp 77]) rfl ?_);go_must (at_builtin;refine Kd.brz (Kd.int .i64) (w0:=w3) wq.heap.size rfl (.tmp 75) (.tmp 77) 57 3 (.int .i64 0) 8 rfl underlying57 kr_ rfl (by decide) (by decide) _ _ z [.int .i64 z] (fun _=>True) (fun _=>False) rfl rfl rfl (fun _ h=>h.elim) (fun _ _=>trivial) f1.o (Zw _ _) C1.o (by have:=q0.o;omega) ?_);intro v2 w4 A0 p0 t0 g0;have l0:=Za A0;have f0:=Za p0;have F0:=Za (show w3.grownBy w4 u14.ownBlock from t0);have L0:=Za (show v2.ownBlock=u14.ownBlock\/ ∃b,v2.ownBlock=some b/\w3.heap.size<=b from g0);clear A0 p0 t0 g0)
    go_roundw
    case rel=>exact ⟨n+1,by omega,by go_num,⟨by rw [M0.o];exact l0.o⟩,⟨Fd.appended A1.o F0.o L0.o⟩,⟨h0.o.os▸f0.o.os,h0.o.tape▸f0.o.tape,h0.o.output▸f0.o.output,Zt h0.o.size f0.o.size,fun i hi hg=>(f0.o.block i hi).trans (h0.o.block i hi hg)⟩⟩
    case measure=>simp [intOf];omega
   ·obtain rfl:n=ny:=by omega
    have R0:y.take n=y:=List.take_of_length_le (by have:=o0.o;omega);rw [R0] at j0;obtain ⟨E1,c0⟩:=Fd.cells I0.o;have hj:=S_join HO.o c0 (by decide) a0.o j0.o d0.o.size;have B1:=Za (show (cauM wb (x.take k) y).length<=1000 by simp [cauM];omega);obtain ⟨va,vc,rfl⟩:=Kd.aQz j0.o
    generalize (y.map fun b=>ginv wb (Go.bits .xor .i64 a b)).length=nn at *
    generalize (y.map fun b=>ginv wb (Go.bits .xor .i64 a b))=R at hj HCM;have d1:=Za hj.1;have C0:=Za hj.2.1;have t1:=Za hj.2.2;have c1:=Za (show W.heap.size<=w2.heap.size from Zt d0.o.size a0.o.size);have o1:=Za (show Fd w2 g wb (fpoly wb) (fun q=>S q\/some q=u11.ownBlock) from k0.o.thin (fun q _ hs=> .inl hs));clear hj c0 k0 j0 R0
    go_wp2_with ((with_reducible refine amz (b:= .append) (xs:= #[.tmp 80, .tmp 82]) rfl ?_);go_must (at_builtin;refine Kd.bLz (dM 3 .i64) (w0:=w2) W.heap.size rfl (.tmp 80) (.tmp 82) 69 57 (.slice none 0 0) 24 rfl underlying69 kr_ rfl (by decide) (by decide) _ _ R [.slice va nn vc] (fun _=>True) (fun k'=>wq.heap.size<=k') rfl rfl C0.o t1.o (fun _ _=>trivial) d1.o (Zw _ _) c1.o (by have:=B1.o;omega) ?_);intro v2 w4 A0 p0 t0 g0;have l0:=Za A0;have f0:=Za p0;have F0:=Za (show w2.grownBy w4 u11.ownBlock from t0);have L0:=Za (show v2.ownBlock=u11.ownBlock\/ ∃b,v2.ownBlock=some b/\w2.heap.size<=b from g0);clear A0 p0 t0 g0)
    go_roundw
    case rel=>exact ⟨k+1,by omega,by go_num,⟨by rw [HCM.o];exact l0.o⟩,⟨Fd.appended o1.o F0.o L0.o⟩,⟨⟨f0.o.os.trans (a0.o.os.trans d0.o.os),f0.o.tape.trans (a0.o.tape.trans d0.o.tape),f0.o.output.trans (a0.o.output.trans d0.o.output),Zt c1.o f0.o.size,fun i hi hg=>(f0.o.block i hi).trans ((a0.o.block i (Zp hi d0.o.size) hg).trans (d0.o.block i hi hg))⟩⟩⟩
    case measure=>simp [intOf];omega
  ·obtain rfl:k=nx:=by omega
   have l0:=Za HO.o;rw [List.take_of_length_le (by have:=n0.o;omega)] at l0;go_wp2;go_ret2;exact ⟨_,rfl,l0.o,I0.o.thin (fun q _ hs=> .inl hs),d0.o⟩
end Go.Proofs.Xc
end
section
namespace Go.Proofs.Xc
open Go.RowKit Go.Proofs.Pw Go.Proofs.Pl Go.Proofs.Pm Tryz
attribute [local go_sem] a7z a8z bgz bhz aVz aWz a9z baz
def runL (a n:Nat):List Int:=(List.range n).map fun i=>((a+i:Nat):Int)
theorem run_f: ∀a:Nat,a<9-> ∀n:Nat,n<9->cxz.f 40 (a:Int) (n:Int)=some (runL a n):=by decide+kernel
theorem bKz (a n:Nat):(runL a n).length=n:=by simp [runL]
theorem run_nodup: ∀k:Nat,k<9-> ∀m:Nat,m<5->(runL 0 m++runL m k).Nodup/\(runL k m++runL 0 k).Nodup:=by decide+kernel
theorem eRz {wb:Int} (hw:wb=8\/wb=16) {a n:Nat} (ha:a<20) (hn:n<20): ∀x,x∈runL a n->0<=x/\x<fsize wb:=by
 intro x hx;simp only [runL,List.mem_map,List.mem_range] at hx;obtain ⟨i,hi,rfl⟩:=hx;rcases dHz hw with ⟨e, -⟩|⟨e, -⟩<;>rw [e] <;>omega
theorem R_FG {w:World} {g B:Nat} {wb p:Int} {S:Nat->Prop} {v:Value} {xs:List Int} (h:(Kd.int .i64).R 3 w B (fun _=>True) v xs) (hF:Fd w g wb p S): ∃A c,v= .slice A xs.length c/\xs.length<=c/\Kd.F (Kd.int .i64) w (NotG g) A xs.length xs:=by
 obtain ⟨a0,hg⟩:=Fd.cells hF;have hR:=Kd.dSz h hg (by decide);obtain ⟨A,c,rfl,hle, -⟩:=Kd.dwz hR;exact ⟨A,c,rfl,hle,fun W' hW=>(Kd.aHz (Kd.dpz hR (fun q hq hlt=>hW q hq.2 hlt))).2.2⟩
theorem run.calls (a n:Nat) (W:World) (ha:a<9) (hn:n<9):Calls prog 118 #[.int .i64 (a:Int), .int .i64 (n:Int)] W fun e w'=> ∃v,e= .returned v/\(Kd.int .i64).R 3 w' W.heap.size (fun _=>True) v (runL a n)/\Below W.heap.size W w':=
 cxz.calls 40 (a:Int) (n:Int) (runL a n) W (run_f a ha n hn)
theorem cOrig.calls (g:Nat) (wb:Int) (S:Nat->Prop) (k m:Nat) (W:World) (hw:wb=8\/wb=16) (hF:Fd W g wb (fpoly wb) S) (hS: ∀k,S k->k<W.heap.size) (h1:1<=k) (h2:1<=m) (h3:k<=8) (h4:m<=4):
  Calls prog 77 #[.pointer (some ⟨g,0,none⟩), .int .i64 (k:Int), .int .i64 (m:Int)] W fun e w'=> ∃v,e= .returned (.tuple #[v, .int .i64 0])/\Kd.S (dM 3 .i64) 57 w' W.heap.size (fun _=>True) v (cauM wb (runL 0 m) (runL m k))/\Fd w' g wb (fpoly wb) S/\BB W w' g:=by
 have b0: ∀n:Nat,1<=n->n<=20->bvz.f (n:Int)=some true:=fun n h1 h2=>by unfold bvz.f;rw [Ya (by omega)];simp;omega
 have k0:=Za (fun w=>bvz.calls (k:Int) true w (b0 k h1 (by omega)));have h0:=Za (fun w=>bvz.calls (m:Int) true w (b0 m h2 (by omega)));have d0:=fun w=>bvz.calls ((k+m:Nat):Int) true w (b0 (k+m) (by omega) (by omega))
 rw [show ((k+m:Nat):Int)=(k:Int)+(m:Int) by omega] at d0;have j0:=Za d0;have hsum:wrap64 ((k:Int)+(m:Int))=(k:Int)+(m:Int):=by unfold wrap64;omega
 have HW:=Za hw;have HF:=Za hF;have HS:=Za hS;have i0:=Za (fun w=>run.calls 0 m w (by omega) (by omega));have p0:=Za (fun w=>run.calls m k w (by omega) (by omega));clear d0 b0 hw hF hS;go_enter func77,ntmps77
 go_wp2_with fail
 refine (k0.o _).mono ?_;rintro e w1 ⟨rfl,n1,rfl⟩
 go_wp2_with fail
 refine (h0.o _).mono ?_;rintro e w2 ⟨rfl,n2,rfl⟩
 go_wp2_with fail
 refine (j0.o _).mono ?_;rintro e w3 ⟨rfl,n3,rfl⟩;have HB:=Za (show Below W.heap.size W (W.drewN (n1+n2+n3)) from a2z (Zw _ _) _)
 go_wp2_with fail
 generalize W.drewN (n1+n2+n3)=w0 at HB|-;refine (i0.o w0).mono ?_;rintro e w4 ⟨v1,rfl,r1,b1⟩;have c0:=HB.o.trans (b1.mono HB.o.size);obtain ⟨A,ca,rfl,f0,f1⟩:=R_FG r1 (HF.o.below c0);have n0:=Za f1;have o0:=Za f0;have g0:=Za c0;rw [bKz];clear r1 b1 f1 f0 c0
 go_wp2_with fail
 refine (p0.o w4).mono ?_;rintro e w5 ⟨v2,rfl,r2,b2⟩;have a0:=g0.o.trans (b2.mono g0.o.size);obtain ⟨B,cb,rfl,hcb,f2⟩:=R_FG r2 (HF.o.below a0)
 have hof:=Of.calls g wb S A B ca cb (runL 0 m) (runL m k) w5 HW.o (HF.o.below a0) (fun q hq=>Zp (HS.o q hq) a0.size) (Kd.cVz n0.o b2) f2 o0.o hcb (by rw [bKz];omega) (by rw [bKz];omega) (by rw [bKz];omega) (by rw [bKz];omega)
  (fun x hx=>(List.mem_append.1 hx).elim (eRz HW.o (by omega) (by omega) x) (eRz HW.o (by omega) (by omega) x)) (run_nodup k (by omega) m (by omega)).1
 rw [bKz,bKz] at hof;have l0:=Za hof;have e0:=Za a0;rw [bKz];clear r2 b2 f2 hcb hof a0
 go_wp2_with (first|(go_at_call 117;refine l0.o.mono ?_;rintro e w6 ⟨v6,rfl,q1,q2,q3⟩))
 go_ret2;exact ⟨_,rfl,Kd.cMz q1 e0.o.size,q2,(BB.of_below e0.o g).trans q3⟩
theorem cIsal.calls (g:Nat) (wb:Int) (S:Nat->Prop) (k m:Nat) (W:World) (hw:wb=8\/wb=16) (hF:Fd W g wb (fpoly wb) S) (hS: ∀k,S k->k<W.heap.size) (h1:1<=k) (h2:1<=m) (h3:k<=8) (h4:m<=4):
  Calls prog 79 #[.pointer (some ⟨g,0,none⟩), .int .i64 (k:Int), .int .i64 (m:Int)] W fun e w'=> ∃v,e= .returned (.tuple #[v, .int .i64 0])/\Kd.S (dM 3 .i64) 57 w' W.heap.size (fun _=>True) v (cauM wb (runL k m) (runL 0 k))/\Fd w' g wb (fpoly wb) S/\BB W w' g:=by
 have b0: ∀n:Nat,1<=n->n<=20->bvz.f (n:Int)=some true:=fun n h1 h2=>by unfold bvz.f;rw [Ya (by omega)];simp;omega
 have k0:=Za (fun w=>bvz.calls (k:Int) true w (b0 k h1 (by omega)));have h0:=Za (fun w=>bvz.calls (m:Int) true w (b0 m h2 (by omega)));have d0:=fun w=>bvz.calls ((k+m:Nat):Int) true w (b0 (k+m) (by omega) (by omega))
 rw [show ((k+m:Nat):Int)=(k:Int)+(m:Int) by omega] at d0;have j0:=Za d0;have hsum:wrap64 ((k:Int)+(m:Int))=(k:Int)+(m:Int):=by unfold wrap64;omega
 have HW:=Za hw;have HF:=Za hF;have HS:=Za hS;have i0:=Za (fun w=>run.calls k m w (by omega) (by omega));have p0:=Za (fun w=>run.calls 0 k w (by omega) (by omega));clear d0 b0 hw hF hS;go_enter func79,ntmps79
 go_wp2_with fail
 refine (k0.o _).mono ?_;rintro e w1 ⟨rfl,n1,rfl⟩
 go_wp2_with fail
 refine (h0.o _).mono ?_;rintro e w2 ⟨rfl,n2,rfl⟩
 go_wp2_with fail
 refine (j0.o _).mono ?_;rintro e w3 ⟨rfl,n3,rfl⟩;have HB:=Za (show Below W.heap.size W (W.drewN (n1+n2+n3)) from a2z (Zw _ _) _)
 go_wp2_with fail
 generalize W.drewN (n1+n2+n3)=w0 at HB|-;refine (i0.o w0).mono ?_;rintro e w4 ⟨v1,rfl,r1,b1⟩;have c0:=HB.o.trans (b1.mono HB.o.size);obtain ⟨A,ca,rfl,f0,f1⟩:=R_FG r1 (HF.o.below c0);have n0:=Za f1;have o0:=Za f0;have g0:=Za c0;rw [bKz];clear r1 b1 f1 f0 c0
 go_wp2_with fail
 refine (p0.o w4).mono ?_;rintro e w5 ⟨v2,rfl,r2,b2⟩;have a0:=g0.o.trans (b2.mono g0.o.size);obtain ⟨B,cb,rfl,hcb,f2⟩:=R_FG r2 (HF.o.below a0)
 have hof:=Of.calls g wb S A B ca cb (runL k m) (runL 0 k) w5 HW.o (HF.o.below a0) (fun q hq=>Zp (HS.o q hq) a0.size) (Kd.cVz n0.o b2) f2 o0.o hcb (by rw [bKz];omega) (by rw [bKz];omega) (by rw [bKz];omega) (by rw [bKz];omega)
  (fun x hx=>(List.mem_append.1 hx).elim (eRz HW.o (by omega) (by omega) x) (eRz HW.o (by omega) (by omega) x)) (run_nodup k (by omega) m (by omega)).2
 rw [bKz,bKz] at hof;have l0:=Za hof;have e0:=Za a0;rw [bKz];clear r2 b2 f2 hcb hof a0
 go_wp2_with (first|(go_at_call 117;refine l0.o.mono ?_;rintro e w6 ⟨v6,rfl,q1,q2,q3⟩))
 go_ret2;exact ⟨_,rfl,Kd.cMz q1 e0.o.size,q2,(BB.of_below e0.o g).trans q3⟩
theorem reduce2.calls (cb c n c':Nat) (A':Option Addr) (x:List Int) (W:World) (hc:W.cell? ⟨cb,0,none⟩=some (.int .i64 (c:Int))) (hX:Kd.C (Kd.int .i64) W A' x.length x) (hlt:c<x.length):
  Calls prog 176 #[.slice A' x.length c', .pointer (some ⟨cb,0,none⟩)] W fun e w'=>e= .returned (.bool (nzB c x))/\Drawn0 W w':=by
 obtain ⟨z,hz⟩: ∃z,x[c]?=some z:=⟨_,Zf hlt⟩;obtain ⟨ad,rfl,hcell⟩:=cKz hX c z hz;have e:nzB c x=(z !=0):=by simp [nzB,Zm,hz]
 rw [e];have c1:(0:Int)<=(c:Int):=by omega
 have c2:(c:Int)<(x.length:Int):=by omega
 generalize x.length=nx at *
 clear hz hX e;go_enter func176,ntmps176;go_wp2;go_ret;exact ⟨rfl,dn_⟩
theorem Mx.C_drop {W:World} {o:Nat} {bs:List (Nat×Nat)} {rows:List (List Int)} (h:Mx W o bs rows) (k:Nat) (hl:rows.length<=1000) (hr: ∀row,row∈rows->row.length<=1000):Kd.C (dM 3 .i64) W (some ⟨o,k,none⟩) (rows.drop k).length (rows.drop k):=by
 refine ⟨rfl,by simp;omega,fun _=>⟨_,rfl,fun j p hp=> ?_⟩⟩;rw [List.getElem?_drop] at hp;have hj:=(Zk hp).1;obtain ⟨⟨b,c⟩,hb⟩: ∃q,bs[k+j]?=some q:=⟨_,Zf (by have:=h.len;omega)⟩;obtain ⟨hc,cs,h1,h2⟩:=h.inner _ b c p hb hp;refine ⟨[.slice (some ⟨b,0,none⟩) p.length c],rfl,⟨some ⟨b,0,none⟩,c,rfl,hc,rfl,?_,fun _=>⟨_,rfl,fun i x hx=>⟨[.int .i64 x],rfl,rfl,fun i' u hu=> ?_⟩⟩⟩,fun i u hu=> ?_⟩
 ·have:=hr p (Zo hp);omega
 ·cases i' with
  |succ i'=>simp at hu
  |zero=>
   obtain rfl:Value.int .i64 x=u:=by simpa using hu
   have e:(⟨b,0,none⟩:Addr).add (i*(Kd.int .i64).sz+0)=⟨b,i,none⟩:=by
    show (⟨b,0,none⟩:Addr).add (i*1+0)=_;unfold Addr.add;split<;>simp_all
   rw [e,abz h1 i];exact h2 i x hx
 ·cases i with
  |succ i=>simp at hu
  |zero=>
   obtain rfl:Value.slice (some ⟨b,0,none⟩) p.length c=u:=by simpa using hu
   have e:(⟨o,k,none⟩:Addr).add (j*(dM 3 .i64).sz+0)=⟨o,k+j,none⟩:=by
    show (⟨o,k,none⟩:Addr).add (j*1+0)=_;unfold Addr.add;split<;>simp_all
   rw [e];exact h.cCz hb hp
theorem reduce.calls (g o : Nat) (wb : Int) (S0 Sx : Nat -> Prop) (m co L cols : Nat) (bs : List (Nat × Nat)) (rows : List (List Int)) (W : World) (hw : wb = 8 \/ wb = 16) (hF : Fd W g wb (fpoly wb) Sx) (hx : ∀ k, S0 k -> Sx k) (hS : ∀ k, Sx k -> k < W.heap.size)
  (hM:Mx W o bs rows) (hSb: ∀(i b c:Nat),bs[i]?=some (b,c)->S0 b) (hSo:S0 o) (hm:rows.length=m) (hmm:m<=100) (hmc:m<=co) (hL: ∀row,row∈rows->row.length=L) (F1:L<=1000) (hcl:cols<=L):
  Calls prog 144 #[.pointer (some ⟨g,0,none⟩), .slice (some ⟨o,0,none⟩) m co, .int .i64 (cols:Int)] W fun e w'=>e= .returned (.int .i64 ((redF wb cols 0 rows 0).2:Int))/\(∃bs',Mx w' o bs' (redF wb cols 0 rows 0).1)/\Fd w' g wb (fpoly wb) Sx/\BS W w' g S0:=by
 obtain ⟨R,hR⟩: ∃R,redF wb cols 0 rows 0=R:=⟨_,rfl⟩;rw [hR];have hgl:=hF.lt;have O1:BB W (((W.alloc (.cells #[.pointer (some ⟨g,0,none⟩)] 72)).alloc (.cells #[.slice (some ⟨o,0,none⟩) m co] 69)).alloc (.cells #[.int .i64 0] 3)) g:=(((BB.refl W g).alloc _).alloc _).alloc _;obtain ⟨S,hSd⟩: ∃S:Nat->Prop,S=(fun k=>Sx k\/k=W.heap.size+1+1):=⟨_,rfl⟩;have I1:Aside0 (∀k,Sx k->S k):=⟨by subst hSd;exact fun k hk=> .inl hk⟩
 have HI:Aside0 (RedSt W (((W.alloc (.cells #[.pointer (some ⟨g,0,none⟩)] 72)).alloc (.cells #[.slice (some ⟨o,0,none⟩) m co] 69)).alloc (.cells #[.int .i64 0] 3)) g W.heap.size (W.heap.size+1) (W.heap.size+1+1) o wb S S0 m co L 0 bs rows):=by
  subst hSd;refine ⟨⟨?_,⟨?_,?_,?_,fun s=>by have:=hS _ (hx _ s);omega,fun s=>by have:=hS _ (hx _ s);omega,fun s=>by have:=hS _ (hx _ s);omega,by omega,by omega,by omega⟩,?_,BS.of_bb O1,hSb,hSo,fun k hk=> .inl (hx k hk), .inr rfl,hm,hL,by omega,by omega,by omega⟩⟩
  ·exact ((hM.alloc _).alloc _).alloc _
  ·exact aPz (aPz (cEz W _) _) _
  ·exact aPz (bBz _ _ _ (by simp)) _
  ·exact bBz _ _ _ (by simp)
  ·exact (((hF.more.thin (fun k hk hs=>hs.elim .inl (fun e=> .inr (by omega)))).alloc _).alloc _).alloc _
 have HW:=Za hw;have HS:=Za (show∀k,S k->k<(((W.alloc (.cells #[.pointer (some ⟨g,0,none⟩)] 72)).alloc (.cells #[.slice (some ⟨o,0,none⟩) m co] 69)).alloc (.cells #[.int .i64 0] 3)).heap.size from fun k hk=>by subst hSd;rcases hk with hk|hk;(have:=hS k hk;simp;omega);(simp;omega));have HR:=Za (show redF wb (cols - 0) 0 rows 0=R from hR);clear hSd hw hF hS hx hM hSb hSo hm hL hR O1;go_enter func144,ntmps144;go_wp2
 go_step3
 go_wp2
 go_step3
 go_wp2;generalize ((W.alloc (.cells #[.pointer (some ⟨g,0,none⟩)] 72)).alloc (.cells #[.slice (some ⟨o,0,none⟩) m co] 69)).alloc (.cells #[.int .i64 0] 3)=W3 at HI HS|-;generalize W.heap.size+1+1=tb at HI|-;generalize W.heap.size+1=ab at HI|-;generalize W.heap.size=fb at HI|-
 go_loopw [19] (fun i wr=> ∃(c at_:Nat) (bs':List (Nat×Nat)) (rows':List (List Int)),i= .int .i64 (c:Int)/\c<=cols/\at_<=m/\Aside0 (redF wb (cols - c) c rows' at_=R)/\Aside0 (RedSt W wr g fb ab tb o wb S S0 m co L at_ bs' rows')/\Aside0 (W3.heap.size<=wr.heap.size)) (fun i _=>cols - (intOf i).toNat)
 case atStart=>exact ⟨0,0,bs,rows,rfl,Nat.zero_le _,Nat.zero_le _,HR,HI,⟨Zv _⟩⟩
 clear HR HI;obtain ⟨c,at_,bs',rows',rfl,hc,hat,HR,HI,HZ⟩:=hrel;by_cases hlt:c<cols
 ·have L1:wr.cell? ⟨tb,0,none⟩=some (.int .i64 (at_:Int)):=(abz HI.o.rd.t 0).trans rfl;have b2:wr.cell? ⟨ab,0,none⟩=some (.slice (some ⟨o,0,none⟩) m co):=(abz HI.o.rd.a 0).trans rfl;have C0:=HR.o;rw [show cols - c=(cols - (c+1))+1 by omega,redF] at C0;by_cases D0:at_=m
  ·subst D0;rw [Ya HI.o.len.symm] at C0;have v0:=Za C0;have hself:((at_:Int)==(at_:Int))=true:=by simp
   have e0:=Za (HI.o.alloc (.cells #[.int .i64 (c:Int)] 3));have c0:(wr.alloc (.cells #[.int .i64 (c:Int)] 3)).cell? ⟨tb,0,none⟩=some (.int .i64 (at_:Int)):=(abz e0.o.rd.t 0).trans rfl;have b0:(wr.alloc (.cells #[.int .i64 (c:Int)] 3)).cell? ⟨ab,0,none⟩=some (.slice (some ⟨o,0,none⟩) at_ co):=(abz e0.o.rd.a 0).trans rfl;clear C0 HR hc;go_wp2;rw [Exit.noGoto_ret];go_ret;rw [<-v0.o];exact ⟨rfl,⟨bs',e0.o.mx⟩,e0.o.fd.thin (fun k _ hk=>I1.o k hk),e0.o.bsw⟩
  ·rw [Yb (by rw [HI.o.len];exact D0)] at C0;have K0:at_<m:=by omega
   have hself:((at_:Int)==(m:Int))=false:=by simp;omega
   have v0:=Za C0;have e0:=Za (HI.o.alloc (.cells #[.int .i64 (c:Int)] 3));have c0:(wr.alloc (.cells #[.int .i64 (c:Int)] 3)).cell? ⟨tb,0,none⟩=some (.int .i64 (at_:Int)):=(abz e0.o.rd.t 0).trans rfl;have b0:(wr.alloc (.cells #[.int .i64 (c:Int)] 3)).cell? ⟨ab,0,none⟩=some (.slice (some ⟨o,0,none⟩) m co):=(abz e0.o.rd.a 0).trans rfl;have hcb:(wr.alloc (.cells #[.int .i64 (c:Int)] 3)).heap[wr.heap.size]?=some (.cells #[.int .i64 (c:Int)] 3 (0,0)):=heap_alloc_new _ _;have l0:=Za (show W3.heap.size<=(wr.alloc (.cells #[.int .i64 (c:Int)] 3)).heap.size by have:=HZ.o;simp;omega)
   have y0:=Za (show wr.heap.size≠g/\ ¬S wr.heap.size by
    refine ⟨fun e=> ?_,fun hs=> ?_⟩
    ·have:=HI.o.fd.lt;omega
    ·have:=HS.o _ hs;have:=HZ.o;omega)
   clear C0 HR D0 L1 b2 HZ
   go_wp2_with fail
   have j0:=Za hcb;generalize wr.heap.size=cb at hcb j0 y0|-;generalize wr.alloc (.cells #[.int .i64 (c:Int)] 3)=w1 at c0 b0 hcb j0 e0 l0|-;clear HI;have L0:w1.cell? ⟨cb,0,none⟩=some (.int .i64 (c:Int)):=(abz j0.o 0).trans rfl;have hdl:(rows'.drop at_).length=m - at_:=by rw [List.length_drop,e0.o.len]
   have q0:=Za (idx_reduce2.calls (nzB c) (.pointer (some ⟨cb,0,none⟩)) (some ⟨o,at_,none⟩) (co - at_) (rows'.drop at_) w1.drew (e0.o.mx.drew.C_drop at_ (by rw [e0.o.len];omega) (fun r hr=>by rw [e0.o.each r hr];exact F1)) (by rw [hdl];omega) (fun m' x A' c' hx hcx hX=>reduce2.calls cb c x.length c' A' x _ L0 hX (by rw [e0.o.each x (List.mem_of_mem_drop hx)];omega)));have P0:=dXz (nzB c) (rows'.drop at_);rw [hdl] at q0 P0;have N1:=Za (show redStep wb c rows' at_=redStep wb c rows' at_ from rfl);obtain ⟨z,hz⟩: ∃z,idxF (nzB c) (rows'.drop at_)=z:=⟨_,rfl⟩;rw [hz] at q0 P0;have a1:=Za hz;have c2: -1<=z:=P0.1;have X1:z<((m - at_:Nat):Int):=P0.2.1;have S1:z<(m:Int) - (at_:Int):=by omega
   have i1:(0:Int)<=(at_:Int):=by omega
   have i2:(at_:Int)<=(m:Int):=by omega
   have hco: ¬co=at_:=by omega
   have hco': ¬at_=co:=by omega
   have m2: ∀(fn:Fn) (first cap:Array Value) (w:World),(Instr.makeFunc fn first cap).run prog w= .ok (.func fn first cap) w:=fun _ _ _ _=>rfl
   clear hz P0 hdl hcb;refine ccz (n:=8) (S:=fun w'=>w'.cell? ⟨tb,0,none⟩=some (.int .i64 (at_:Int))/\w'.cell? ⟨ab,0,none⟩=some (.slice (some ⟨o,0,none⟩) m co)) (ds:= []) (bA 8 0) kr_ rfl rfl ⟨c0,b0⟩ (fun hHeld=> ?_);refine pu_ 4 30 16 ?_;refine tk_ 0 26 17 hHeld ?_;refine tk_ 1 27 19 hHeld ?_;refine tk_ 2 28 23 hHeld ?_;refine pu_ 3 29 31 ?_;refine one_ (i:=5) (N:=some 31) (bA 8 63) rfl rfl kr_ (by decide) (fun K hK=> ?_);refine goes_ func175 kr_ rfl #[.slice (some ⟨o,at_,none⟩) (m - at_) (co - at_), .func (.func 176) #[] #[.pointer (some ⟨cb,0,none⟩)]] (by rfl) rfl rfl am_ ?_
   with_reducible refine (q0.o).mono ?_
   rintro e w3 ⟨rfl,n3,rfl⟩;refine ⟨_,rfl,?_⟩;refine hK.out _ _ ⟨c0,b0⟩ (fun hHeld=> ?_);clear hK K;refine norm_ (a':= ?_) ?_ ?_;rotate_left
   ·show Act.put _ (some 31) _=_;simp only [Act.put,Zg,Zh,Zi,i64_w,i32_w];rfl
   refine pu_ 6 32 127 ?_;refine pu_ 7 10 255 ?_;refine done_ kr_ ?_;have hwr:wrap64 ((at_:Int)+z)=(at_:Int)+z:=by unfold wrap64;omega
   rw [hwr];clear hwr q0 hHeld;have a0:=Za (e0.o.drew.drewN n3);have B0:(w1.drew.drewN n3).heap[cb]?=some (.cells #[.int .i64 (c:Int)] 3 (0,0)):=j0.o;have l1:W3.heap.size<=(w1.drew.drewN n3).heap.size:=l0.o;clear e0 c0 b0 L0 j0 l0;generalize w1.drew.drewN n3=w2 at a0 B0 l1|-;have j0:=Za B0;have l0:=Za l1;have c0:w2.cell? ⟨tb,0,none⟩=some (.int .i64 (at_:Int)):=(abz a0.o.rd.t 0).trans rfl;clear B0 l1;by_cases hneg:z<0
   ·have l2:(at_:Int)+z<(at_:Int):=by omega
    have G0:=Za (show redF wb (cols - (c+1)) (c+1) rows' at_=R by
     have h1:=v0.o;have h2:redStep wb c rows' at_=(rows',at_):=by unfold redStep;rw [a1.o];simp only [hneg,if_true]
     rw [h2] at h1;exact h1)
    clear v0 a1 N1;go_wp2;go_roundw
    case rel=>exact ⟨c+1,at_,bs',rows',by go_num,by omega,hat,G0,a0,l0⟩
    case measure=>simp [intOf];omega
   ·obtain ⟨k,hk⟩: ∃k:Nat,(at_:Int)+z=(k:Int):=⟨at_+z.toNat,by omega⟩;have hkz:at_+z.toNat=k:=by omega
    rw [hk];have g2:k<m:=by omega
    have hka:at_<=k:=by omega
    have G0:=Za v0.o
    have HST:=Za (show redStep wb c rows' at_=(clrAll wb at_ c (List.zipWith (fun x _=>gmul wb x (ginv wb (((swapL rows' at_ k).getD at_ []).getD c 0))) ((swapL rows' at_ k).getD at_ []) ((swapL rows' at_ k).getD at_ [])) ((swapL rows' at_ k).set at_ (List.zipWith (fun x _=>gmul wb x (ginv wb (((swapL rows' at_ k).getD at_ []).getD c 0))) ((swapL rows' at_ k).getD at_ []) ((swapL rows' at_ k).getD at_ []))),at_+1) by
     unfold redStep;rw [a1.o];simp only [hneg,if_false];rw [hkz])
    rw [HST.o] at G0;have hnk: ¬((k:Int)<(at_:Int)):=by omega
    clear v0 HST N1 a1 hk hkz c2 X1 S1 hneg
    go_wp2_with fail
    obtain ⟨⟨ba,ca⟩,X0⟩: ∃q,bs'[at_]?=some q:=⟨_,Zf (by have:=a0.o.mx.len;have:=a0.o.len;omega)⟩;obtain ⟨⟨bk,ck⟩,hbk⟩: ∃q,bs'[k]?=some q:=⟨_,Zf (by have:=a0.o.mx.len;have:=a0.o.len;omega)⟩;obtain ⟨ra,hra⟩: ∃r,rows'[at_]?=some r:=⟨_,Zf (by have:=a0.o.len;omega)⟩;obtain ⟨rk,T0⟩: ∃r,rows'[k]?=some r:=⟨_,Zf (by have:=a0.o.len;omega)⟩;have B1:=a0.o.each ra (Zo hra);have p1:=a0.o.each rk (Zo T0);have a2:w2.cell? ⟨o,at_,none⟩=some (.slice (some ⟨ba,0,none⟩) L ca):=by rw [a0.o.mx.cCz X0 hra,B1]
    have hck:w2.cell? ⟨o,k,none⟩=some (.slice (some ⟨bk,0,none⟩) L ck):=by rw [a0.o.mx.cCz hbk T0,p1]
    have hfa:=a0.o.mx.froz_o at_;have U1:=a0.o.mx.froz_o k;obtain ⟨v',t1⟩:=cell?_setCell_some (w:=w2) (p:=⟨o,at_,none⟩) (x:= .slice (some ⟨bk,0,none⟩) L ck) (q:=⟨o,k,none⟩) (v:= .slice (some ⟨bk,0,none⟩) L ck) hck;have b0:w2.cell? ⟨ab,0,none⟩=some (.slice (some ⟨o,0,none⟩) m co):=(abz a0.o.rd.a 0).trans rfl;have G1:=Za (a0.o.swap X0 hbk);have Z1:=Za (dtz bs' at_ k _ _ X0 hbk at_);have Y1:=Za (dtz rows' at_ k _ _ hra T0 at_);have g1:=Za p1;have A1:=Za B1;have k1:(0:Int)<=(k:Int):=by omega
    have k2:(k:Int)<(m:Int):=by omega
    have k3:(at_:Int)<(m:Int):=by omega
    have F0:tb≠o/\ab≠o:=⟨fun e=>a0.o.rd.tS (e▸a0.o.so),fun e=>a0.o.rd.aS (e▸a0.o.so)⟩;have P1:(w2.setCell ⟨o,at_,none⟩ (.slice (some ⟨bk,0,none⟩) L ck)).cell? ⟨tb,0,none⟩=some (.int .i64 (at_:Int)):=(World.cell?_setCell_other _ ⟨o,at_,none⟩ ⟨tb,0,none⟩ _ (fun e=>F0.1 (congrArg Addr.block e).symm)).trans c0;have E1:(w2.setCell ⟨o,at_,none⟩ (.slice (some ⟨bk,0,none⟩) L ck)).cell? ⟨ab,0,none⟩=some (.slice (some ⟨o,0,none⟩) m co):=(World.cell?_setCell_other _ ⟨o,at_,none⟩ ⟨ab,0,none⟩ _ (fun e=>F0.2 (congrArg Addr.block e).symm)).trans b0;clear X0 hbk hra T0 B1 p1 F0;refine ccz (n:=16) (S:=fun w'=>w'.cell? ⟨tb,0,none⟩=some (.int .i64 (at_:Int))/\w'.cell? ⟨ab,0,none⟩=some (.slice (some ⟨o,0,none⟩) m co)) (ds:= [15]) (bA 16 0) kr_ rfl rfl ⟨c0,b0⟩ (fun hHeld=> ?_);refine pu_ 3 39 8 ?_;refine pu_ 5 41 40 ?_;refine tk_ 0 36 41 hHeld ?_;refine tk_ 1 37 43 hHeld ?_;refine tk_ 2 38 47 hHeld ?_
    refine tk_ 4 40 63 hHeld ?_;refine pu_ 6 42 127 ?_;refine tk_ 8 44 383 hHeld ?_;refine tk_ 9 45 895 hHeld ?_;refine pu_ 10 46 1919 ?_;refine join_ (σ:=Unit) 4 (bA 16 4095) (fun _=> [(43, .slice (some ⟨bk,0,none⟩) L ck),(47, .slice (some ⟨ba,0,none⟩) L ca)]) (fun _ w'=>w'=w2.drew) ?_ ?_;rotate_left
    ·intro t0;refine two_ (i:=7) (j:=11) (Ni:=some 43) (Nj:=some 47) (bA 16 2047) (bA 16 3967) rfl rfl rfl rfl kr_ (by decide) (by decide) (fun K hK=> ?_) (fun K hK=> ?_)
     ·skip
      refine chz (w1:= ?_) (v:= ?_) (by rfl) rfl ?_ ?_;rotate_left 2
      ·go_simp;constructor
       ·rfl
       ·rfl
      refine hK.out _ _ ⟨c0,b0⟩ (fun hHeld=> ?_);clear hK K;refine norm_ (a':= ?_) ?_ ?_;rotate_left
      ·show Act.put _ (some 43) _=_;simp only [Act.put,Zg,Zh,Zi,i64_w,i32_w];rfl
      refine one_ (i:=11) (N:=some 47) (bA 16 4095) rfl rfl kr_ (by decide) (fun K hK=> ?_);refine chz (w1:= ?_) (v:= ?_) (by rfl) rfl ?_ ?_;rotate_left 2
      ·go_simp;constructor
       ·rfl
       ·rfl
      refine hK.out _ _ ⟨c0,b0⟩ (fun hHeld=> ?_);clear hK K;refine norm_ (a':= ?_) ?_ ?_;rotate_left
      ·show Act.put _ (some 47) _=_;simp only [Act.put,Zg,Zh,Zi,i64_w,i32_w];rfl
      exact norm_ (by simp only [putAll,Act.put,Zg,Zh,Zi]) (t0 () _ rfl)
     ·skip
      refine chz (w1:= ?_) (v:= ?_) (by rfl) rfl ?_ ?_;rotate_left 2
      ·go_simp;constructor
       ·rfl
       ·rfl
      refine hK.out _ _ ⟨c0,b0⟩ (fun hHeld=> ?_);clear hK K;refine norm_ (a':= ?_) ?_ ?_;rotate_left
      ·show Act.put _ (some 47) _=_;simp only [Act.put,Zg,Zh,Zi,i64_w,i32_w];rfl
      refine one_ (i:=7) (N:=some 43) (bA 16 4095) rfl rfl kr_ (by decide) (fun K hK=> ?_);refine chz (w1:= ?_) (v:= ?_) (by rfl) rfl ?_ ?_;rotate_left 2
      ·go_simp;constructor
       ·rfl
       ·rfl
      refine hK.out _ _ ⟨c0,b0⟩ (fun hHeld=> ?_);clear hK K;refine norm_ (a':= ?_) ?_ ?_;rotate_left
      ·show Act.put _ (some 43) _=_;simp only [Act.put,Zg,Zh,Zi,i64_w,i32_w];rfl
      exact norm_ (by simp only [putAll,Act.put,Zg,Zh,Zi]) (t0 () _ rfl)
    rintro _ w' rfl;have hHeld:w2.drew.cell? ⟨tb,0,none⟩=some (.int .i64 (at_:Int))/\w2.drew.cell? ⟨ab,0,none⟩=some (.slice (some ⟨o,0,none⟩) m co):=⟨c0,b0⟩;refine norm_ (a':= ?_) ?_ ?_;rotate_left
    ·simp only [putAll,Act.put,Zg,Zh,Zi];rfl
    refine pu_ 12 48 8191 ?_;refine one_ (i:=13) (N:=none) (bA 16 16383) rfl rfl kr_ (by decide) (fun K hK=> ?_);refine skip_ (w1:= ?_) (by rfl) rfl ?_ ?_;rotate_left
    ·go_simp;rfl
    refine hK.out _ _ ⟨P1,E1⟩ (fun hHeld=> ?_);clear hK K;refine pu_ 14 49 32767 ?_;refine last_ (i:=15) (N:=none) (bA 16 65535) rfl rfl kr_ (by decide) (fun K hK=> ?_);refine skip_ (w1:= ?_) (by rfl) rfl ?_ ?_;rotate_left
    ·go_simp;rfl
    refine hK.out _ _ ?_;clear hK K;refine done_ kr_ ?_;clear hHeld P1 E1 t1 a2 hck hfa U1 c0 b0;have f0:=Za G1.o.drew;have A0:((w2.setCell ⟨o,at_,none⟩ (.slice (some ⟨bk,0,none⟩) L ck)).setCell ⟨o,k,none⟩ (.slice (some ⟨ba,0,none⟩) L ca)).drew.heap[cb]?=some (.cells #[.int .i64 (c:Int)] 3 (0,0)):=bHz (bHz j0.o (fun e=>y0.o.2 (a0.o.s0 _ (e▸a0.o.so))) _) (fun e=>y0.o.2 (a0.o.s0 _ (e▸a0.o.so))) _;have v1:W3.heap.size<=((w2.setCell ⟨o,at_,none⟩ (.slice (some ⟨bk,0,none⟩) L ck)).setCell ⟨o,k,none⟩ (.slice (some ⟨ba,0,none⟩) L ca)).drew.heap.size:=by simpa using l0.o
    clear G1 a0 j0 l0;generalize ((w2.setCell ⟨o,at_,none⟩ (.slice (some ⟨bk,0,none⟩) L ck)).setCell ⟨o,k,none⟩ (.slice (some ⟨ba,0,none⟩) L ca)).drew=w3 at f0 A0 v1|-;have j0:=Za A0;have l0:=Za v1;clear A0 v1;clear Z1 Y1 g1 A1;generalize swapL rows' at_ k=rows3 at f0 G0;generalize swapL bs' at_ k=bs3 at f0;obtain ⟨⟨b3,c3⟩,V0⟩: ∃q,bs3[at_]?=some q:=⟨_,Zf (by have:=f0.o.mx.len;have:=f0.o.len;omega)⟩;obtain ⟨pr,hpr⟩: ∃r,rows3[at_]?=some r:=⟨_,Zf (by have:=f0.o.len;omega)⟩;have c1:=f0.o.each pr (Zo hpr);obtain ⟨x,hx⟩: ∃x,pr[c]?=some x:=⟨_,Zf (by omega)⟩;have m1:=G0.o;have e1:rows3.getD at_ [] =pr:=by rw [Zm,hpr];rfl
    have e2:pr.getD c 0=x:=by rw [Zm,hx];rfl
    rw [e1,e2] at m1;have Z0:=Za m1;have p0:=Za V0;have o1:=Za hpr;have O0:=Za c1;have H0:w3.cell? ⟨fb,0,none⟩=some (.pointer (some ⟨g,0,none⟩)):=(abz f0.o.rd.f 0).trans rfl;have b0:w3.cell? ⟨ab,0,none⟩=some (.slice (some ⟨o,0,none⟩) m co):=(abz f0.o.rd.a 0).trans rfl;have c0:w3.cell? ⟨tb,0,none⟩=some (.int .i64 (at_:Int)):=(abz f0.o.rd.t 0).trans rfl;have z0:w3.cell? ⟨o,at_,none⟩=some (.slice (some ⟨b3,0,none⟩) L c3):=by rw [f0.o.mx.cCz V0 hpr,c1]
    have y1:w3.cell? ⟨cb,0,none⟩=some (.int .i64 (c:Int)):=(abz j0.o 0).trans rfl;have K1:w3.cell? ⟨b3,c,none⟩=some (.int .i64 x):=f0.o.mx.cUz V0 hpr hx;have j1:(0:Int)<=(c:Int):=by omega
    have j2:(c:Int)<(L:Int):=by omega
    have b1:=Za (show∀k,S k->k<w3.drew.heap.size from fun k hk=>Zp (HS.o k hk) l0.o);have W0:=Za f0.o.fd.drew;clear V0 hpr c1 hx m1 e1 e2 G0
    go_wp2_with fail
    refine ccz (n:=14) (S:=fun w'=>w'.cell? ⟨fb,0,none⟩=some (.pointer (some ⟨g,0,none⟩))/\w'.cell? ⟨ab,0,none⟩=some (.slice (some ⟨o,0,none⟩) m co)/\w'.cell? ⟨tb,0,none⟩=some (.int .i64 (at_:Int))/\w'.cell? ⟨o,at_,none⟩=some (.slice (some ⟨b3,0,none⟩) L c3)/\w'.cell? ⟨cb,0,none⟩=some (.int .i64 (c:Int))/\w'.cell? ⟨b3,c,none⟩=some (.int .i64 x)) (ds:= [8]) (bA 14 0) kr_ rfl rfl ⟨H0,b0,c0,z0,y1,K1⟩ (fun hHeld=> ?_);refine tk_ 0 51 1 hHeld ?_;refine tk_ 1 52 3 hHeld ?_;refine tk_ 2 53 7 hHeld ?_;refine pu_ 3 54 15 ?_;refine tk_ 4 55 31 hHeld ?_;refine tk_ 5 56 63 hHeld ?_;refine pu_ 6 57 127 ?_;refine tk_ 7 58 255 hHeld ?_;refine last_ (i:=8) (N:=some 59) (bA 14 511) rfl rfl kr_ (by decide) (fun K hK=> ?_);refine goes_ func114 kr_ rfl #[.pointer (some ⟨g,0,none⟩), .int .i64 x] (by rfl) rfl rfl am_ ?_
    with_reducible refine (gf_Inv.calls g S wb x _ HW.o W0.o b1.o).mono ?_
    rintro e w4 ⟨rfl,q1,q2⟩;refine ⟨_,rfl,?_⟩;refine hK.out _ _ ?_;clear hK K;refine norm_ (a':= ?_) ?_ ?_;rotate_left
    ·show Act.put _ (some 59) _=_;simp only [Act.put,Zg,Zh,Zi,i64_w,i32_w];rfl
    refine pu_ 9 50 1023 ?_;refine pu_ 10 60 2047 ?_;refine pu_ 11 61 4095 ?_;refine pu_ 12 11 8191 ?_;refine pu_ 13 12 16383 ?_;refine done_ kr_ ?_;have q3:BB w3 w4 g:=⟨q2.os,q2.tape,q2.output,q2.size,q2.block⟩;have N0:=Za (f0.o.bb q1 q3);have R0:=Za ((q3.block _ (aUz j0.o) y0.o.1).trans j0.o);have H1:=Za (Zt l0.o q3.size);clear H0 b0 c0 z0 y1 K1 b1 W0 q1 q2 q3 f0 j0 l0;generalize (inF wb x&&x !=0)=okb;generalize ginv wb x=gi at Z0|-;have b0:w4.cell? ⟨ab,0,none⟩=some (.slice (some ⟨o,0,none⟩) m co):=(abz N0.o.rd.a 0).trans rfl;have c0:w4.cell? ⟨tb,0,none⟩=some (.int .i64 (at_:Int)):=(abz N0.o.rd.t 0).trans rfl;have z0:w4.cell? ⟨o,at_,none⟩=some (.slice (some ⟨b3,0,none⟩) L c3):=by rw [N0.o.mx.cCz p0.o o1.o,O0.o]
    go_wp2;clear b0 c0 z0
    go_loopw [67] (fun j d1=> ∃jj:Nat,jj<=L/\j= .int .i64 (jj:Int)/\Aside0 (RedSt W d1 g fb ab tb o wb S S0 m co L at_ bs3 (rows3.set at_ (mid (fun y _=>gmul wb y gi) pr pr jj)))/\Aside0 (d1.heap[cb]?=some (.cells #[.int .i64 (c:Int)] 3 (0,0)))/\Aside0 (W3.heap.size<=d1.heap.size)) (fun j _=>L - (intOf j).toNat)
    case atStart=>exact ⟨0,Nat.zero_le _,rfl,⟨by rw [mid_zero,set_same o1.o];exact N0.o⟩,R0,H1⟩
    clear N0 R0 H1;obtain ⟨jj,hjj,rfl,d0,o0,U0⟩:=hrel;have Q0:at_<rows3.length:=(Zk o1.o).1;have h0:=Za (show (rows3.set at_ (mid (fun y _=>gmul wb y gi) pr pr jj))[at_]?=some (mid (fun y _=>gmul wb y gi) pr pr jj) from List.getElem?_set_self Q0);have I0:=Za (show (mid (fun y _=>gmul wb y gi) pr pr jj).length=L by rw [mid_length _ _ _ _ (by have:=O0.o;omega) rfl,O0.o]);by_cases hjl:jj<L
    ·obtain ⟨y,hy⟩: ∃y,pr[jj]?=some y:=⟨_,Zf (by have:=O0.o;omega)⟩;have C1:=mid_at (fun y _=>gmul wb y gi) pr pr jj y hy rfl;have J0:=Za (mid_step (fun y _=>gmul wb y gi) pr pr jj y y hy hy rfl);have D1:wr.cell? ⟨b3,jj,none⟩=some (.int .i64 y):=d0.o.mx.cUz p0.o h0.o C1;have hfz:=d0.o.mx.froz_i p0.o jj;have hbl:=d0.o.mx.lt_i p0.o;have hbg:=d0.o.ng.2 _ _ _ p0.o;have hog:=d0.o.ng.1;have H0:wr.cell? ⟨fb,0,none⟩=some (.pointer (some ⟨g,0,none⟩)):=(abz d0.o.rd.f 0).trans rfl;have b0:wr.cell? ⟨ab,0,none⟩=some (.slice (some ⟨o,0,none⟩) m co):=(abz d0.o.rd.a 0).trans rfl;have c0:wr.cell? ⟨tb,0,none⟩=some (.int .i64 (at_:Int)):=(abz d0.o.rd.t 0).trans rfl;have z0:wr.cell? ⟨o,at_,none⟩=some (.slice (some ⟨b3,0,none⟩) L c3):=by rw [d0.o.mx.cCz p0.o h0.o,I0.o]
     have R1:=Za (fun (w6:World) (h:BB wr w6 g)=>Zb (cAz h H0 d0.o.rd.fg) (Zb (cAz h b0 d0.o.rd.ag) (Zb (cAz h c0 d0.o.rd.tg) (Zb (cAz h z0 hog) (Zb (cAz h D1 hbg) (froz_bb h (p:=⟨b3,jj,none⟩) hbl hfz hbg))))));have b1:=Za (show∀k,S k->k<wr.drew.heap.size from fun k hk=>Zp (HS.o k hk) U0.o);have W0:=Za d0.o.fd.drew;have j3:(0:Int)<=(jj:Int):=by omega
     have j4:(jj:Int)<(L:Int):=by omega
     clear hy C1 hfz hbl hbg hog
     go_wp2_with fail
     refine ccz (n:=11) (S:=fun w'=>w'.cell? ⟨fb,0,none⟩=some (.pointer (some ⟨g,0,none⟩))/\w'.cell? ⟨ab,0,none⟩=some (.slice (some ⟨o,0,none⟩) m co)/\w'.cell? ⟨tb,0,none⟩=some (.int .i64 (at_:Int))/\w'.cell? ⟨o,at_,none⟩=some (.slice (some ⟨b3,0,none⟩) L c3)) (ds:= [10]) (bA 11 0) kr_ rfl rfl ⟨H0,b0,c0,z0⟩ (fun hHeld=> ?_);refine pu_ 4 76 16 ?_;refine pu_ 6 78 80 ?_;refine pu_ 7 79 208 ?_;refine tk_ 0 72 209 hHeld ?_;refine tk_ 1 73 211 hHeld ?_;refine pu_ 2 74 215 ?_;refine tk_ 3 75 223 hHeld ?_;refine tk_ 5 77 255 hHeld ?_;refine one_ (i:=8) (N:=some 80) (bA 11 511) rfl rfl kr_ (by decide) (fun K hK=> ?_);refine goes_ func103 kr_ rfl #[.pointer (some ⟨g,0,none⟩), .int .i64 y, .int .i64 gi] (by rfl) rfl rfl am_ ?_
     with_reducible refine (cLz.calls g S wb y gi _ HW.o W0.o b1.o).mono ?_
     rintro e w6 ⟨rfl,q1,q2⟩;refine ⟨_,rfl,?_⟩;have q3:BB wr w6 g:=⟨q2.os,q2.tape,q2.output,q2.size,q2.block⟩;obtain ⟨r1,r2,r3,r4,r5,r6⟩:=R1.o w6 q3;have Q1:=Za q1;have Q3:=Za q3;clear q1 q2 q3;refine hK.out _ _ ⟨r1,r2,r3,r4⟩ (fun hHeld=> ?_);clear hK K;refine norm_ (a':= ?_) ?_ ?_;rotate_left
     ·show Act.put _ (some 80) _=_;simp only [Act.put,Zg,Zh,Zi,i64_w,i32_w];rfl
     refine pu_ 9 81 1023 ?_;refine last_ (i:=10) (N:=none) (bA 11 2047) rfl rfl kr_ (by decide) (fun K hK=> ?_);refine skip_ (w1:= ?_) (by rfl) rfl ?_ ?_;rotate_left
     ·go_simp;rfl
     refine hK.out _ _ ?_;clear hK K;refine done_ kr_ ?_;have n0:=Za ((d0.o.bb Q1.o Q3.o).setI p0.o h0.o jj (gmul wb y gi));rw [J0.o,List.set_set] at n0;have n1:=Za (bHz ((Q3.o.block _ (aUz o0.o) y0.o.1).trans o0.o) (show cb≠(⟨b3,jj,none⟩:Addr).block from fun e=>y0.o.2 (d0.o.s0 _ (e▸d0.o.sb _ _ _ p0.o))) (.int .i64 (gmul wb y gi)));have T1:=Za (show W3.heap.size<=(w6.setCell ⟨b3,jj,none⟩ (.int .i64 (gmul wb y gi))).heap.size by have h1:=U0.o;have h2:=Q3.o.size;simp;omega);clear hHeld r1 r2 r3 r4 r5 r6 D1 H0 b0 c0 z0 R1;go_wp2;go_roundw
     case rel=>exact ⟨jj+1,by omega,by go_num,n0,n1,T1⟩
     case measure=>simp [intOf];omega
    ·obtain rfl:jj=L:=by omega
     have n0:=Za d0.o;have M1:=Za (show mid (fun y _=>gmul wb y gi) pr pr jj=List.zipWith (fun y _=>gmul wb y gi) pr pr by rw [<-O0.o];exact mid_full _ _ _ rfl);rw [M1.o] at n0 I0;clear d0 M1;have r0:=Za (show (rows3.set at_ (List.zipWith (fun y _=>gmul wb y gi) pr pr))[at_]?=some (List.zipWith (fun y _=>gmul wb y gi) pr pr) from List.getElem?_set_self Q0);clear h0;generalize List.zipWith (fun y _=>gmul wb y gi) pr pr=p2 at n0 I0 r0 Z0;generalize rows3.set at_ p2=rows4 at n0 r0 Z0;have b0:wr.cell? ⟨ab,0,none⟩=some (.slice (some ⟨o,0,none⟩) m co):=(abz n0.o.rd.a 0).trans rfl;go_wp2;clear b0
     go_loopw [85] (fun i z1=> ∃ii:Nat,ii<=m/\i= .int .i64 (ii:Int)/\Aside0 (RedSt W z1 g fb ab tb o wb S S0 m co jj at_ bs3 (clrTo wb at_ c p2 rows4 ii))/\Aside0 (z1.heap[cb]?=some (.cells #[.int .i64 (c:Int)] 3 (0,0)))/\Aside0 (W3.heap.size<=z1.heap.size)) (fun i _=>m - (intOf i).toNat)
     case atStart=>exact ⟨0,Nat.zero_le _,rfl,⟨by rw [clrTo_zero];exact n0.o⟩,o0,U0⟩
     have w0:=n0.o.len;have k0:=n0.o.each;have HLEN:=Za w0;have M0:=Za k0;clear n0 o0 U0 w0 k0;obtain ⟨ii,hii,rfl,g0,E0,Y0⟩:=hrel;by_cases hil:ii<m
     ·obtain ⟨⟨bi,ci⟩,hbi⟩: ∃q,bs3[ii]?=some q:=⟨_,Zf (by have:=g0.o.mx.len;have:=g0.o.len;omega)⟩;obtain ⟨row,hrow⟩: ∃r,rows4[ii]?=some r:=⟨_,Zf (by have:=HLEN.o;omega)⟩;have hct:=clrTo_at wb at_ c p2 rows4 ii row hrow;have i0:=M0.o row (Zo hrow);have hoi:wr.cell? ⟨o,ii,none⟩=some (.slice (some ⟨bi,0,none⟩) jj ci):=by rw [g0.o.mx.cCz hbi hct,i0]
      have c0:wr.cell? ⟨tb,0,none⟩=some (.int .i64 (at_:Int)):=(abz g0.o.rd.t 0).trans rfl;have y1:wr.cell? ⟨cb,0,none⟩=some (.int .i64 (c:Int)):=(abz E0.o 0).trans rfl;have i7:(0:Int)<=(ii:Int):=by omega
      have i8:(ii:Int)<(m:Int):=by omega
      by_cases hia:ii=at_
      ·have hne:((ii:Int) !=(at_:Int))=false:=by simp [hia]
       have u0:=Za (show RedSt W wr g fb ab tb o wb S S0 m co jj at_ bs3 (clrTo wb at_ c p2 rows4 (ii+1)) by
        have e4:clrTo wb at_ c p2 rows4 (ii+1)=clrTo wb at_ c p2 rows4 ii:=by rw [hia];exact (clrTo_skip wb at_ c p2 rows4 p2 r0.o).symm
        rw [e4];exact g0.o)
       clear hbi hrow hct i0 hia;go_wp2;go_roundw
       case rel=>exact ⟨ii+1,by omega,by go_num,u0,E0,Y0⟩
       case measure=>simp [intOf];omega
      ·have hne:((ii:Int) !=(at_:Int))=true:=by simp;omega
       obtain ⟨n,hn⟩: ∃n,row[c]?=some n:=⟨_,Zf (by omega)⟩;have e3:row.getD c 0=n:=by rw [Zm,hn];rfl
       have HST:=Za (clrTo_step wb at_ c p2 rows4 ii row hrow hia);rw [e3] at HST
       have f1:=Za (show∀r,r∈clrTo wb at_ c p2 rows4 (ii+1)->r.length=jj by
        rw [<-HST.o];intro r hr;rcases List.mem_or_eq_of_mem_set hr with h1|h1
        ·exact g0.o.each r h1
        ·rw [h1,List.length_zipWith,i0,I0.o,Nat.min_self])
       have f2:=Za (show (List.zipWith (clrF wb n) row p2).length=jj by rw [List.length_zipWith,i0,I0.o,Nat.min_self]);have W1:=Za (clear.calls g fb ab tb o wb S S0 m co ii at_ bi ci b3 c3 c jj n bs3 _ row p2 wr HW.o g0.o.fd (fun k hk=>Zp (HS.o k hk) Y0.o) g0.o.mx g0.o.sb g0.o.s0 g0.o.rd K0 hbi hct p0.o (clrTo_pr wb at_ c p2 rows4 ii r0.o) hia i0 I0.o F1 hn);clear hbi hrow hct i0 hia hn e3
       go_wp2_with (first|(go_at_call 174;refine W1.o.mono ?_;rintro e w7 ⟨rfl,u1,u2,u3⟩))
       rw [HST.o] at u1;have u0:=Za (g0.o.clr u1 u2 u3 (by rw [clrTo_length _ _ _ _ _ _ (by have:=HLEN.o;omega)];exact HLEN.o) (fun r hr=>f1.o r hr));have s1:=Za (u3.blk E0.o y0.o.1 (fun hs=>y0.o.2 (g0.o.s0 _ hs)));have V1:=Za (Zt Y0.o u3.size);clear u1 u2 u3;go_roundw
       case rel=>exact ⟨ii+1,by omega,by go_num,u0,s1,V1⟩
       case measure=>simp [intOf];omega
     ·have hie:ii=m:=by omega
      have u0:=Za (show RedSt W wr g fb ab tb o wb S S0 m co jj at_ bs3 (clrAll wb at_ c p2 rows4) by
       have e5:clrTo wb at_ c p2 rows4 ii=clrAll wb at_ c p2 rows4:=by rw [hie, <-HLEN.o];exact clrTo_full _ _ _ _ _
       rw [<-e5];exact g0.o)
      have c0:wr.cell? ⟨tb,0,none⟩=some (.int .i64 (at_:Int)):=(abz u0.o.rd.t 0).trans rfl;have d2:=bbz u0.o.rd.t 0;have J1:=Za (u0.o.setT (at_+1));have hsum:((at_+1:Nat):Int)=(at_:Int)+1:=by omega
      rw [hsum] at J1;clear g0 u0 hie hsum;go_wp2;go_roundw
      case rel=>exact ⟨c+1,at_+1,bs3,_,by go_num,by omega,by omega,Z0,J1,⟨by have:=Y0.o;simp;omega⟩⟩
      case measure=>simp [intOf];omega
 ·have hce:c=cols:=by omega
  subst hce;have v0:=Za (show (rows',at_)=R by have:=HR.o;rwa [Nat.sub_self,redF] at this);have L1:wr.cell? ⟨tb,0,none⟩=some (.int .i64 (at_:Int)):=(abz HI.o.rd.t 0).trans rfl;clear HR;go_wp2;rw [Exit.noGoto_ret];go_ret;rw [<-v0.o];exact ⟨rfl,⟨bs',HI.o.mx⟩,HI.o.fd.thin (fun k _ hk=>I1.o k hk),HI.o.bsw⟩
end Go.Proofs.Xc
end
