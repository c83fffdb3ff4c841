-- Joined texts of this work (wip/tools/bundle.py).
import Derived.Test.YtpdakdcmahlghaaGreatBReconUpdates14
set_option maxHeartbeats 4000000
set_option maxRecDepth 100000
set_option linter.unusedVariables false
set_option linter.unusedSimpArgs false
section
namespace Go.Proofs.Xc
open Go.RowKit Go.Proofs.Pw Go.Proofs.Pl Go.Proofs.Pm
attribute [local go_sem] a7z a8z bjz bkz aZz a0z a9z baz
theorem reduce2.calls (cb c n c' : Nat) (A' : Option Addr) (x : List Int) (W : World) (hc : W.cell? ⟨cb, 0, none⟩ = some (.int .i64 (c : Int))) (hX : Kd.C (Kd.int .i64) W A' x.length x) (hlt : c < x.length) :
  Calls Tryz.prog 176 #[.slice A' x.length c', .pointer (some ⟨cb,0,none⟩)] W fun e w'=>e= .returned (.bool (nzB c x))/\Drawn0 W w':=by
 obtain ⟨z,hz⟩: ∃z,x[c]?=some z:=⟨_,Zf hlt⟩;obtain ⟨ad,rfl,hcell⟩:=cHz hX c z hz;have e:nzB c x=(z !=0):=by simp [nzB,Zm,hz]
 rw [e];have c1:(0:Int)<=(c:Int):=by omega
 have c2:(c:Int)<(x.length:Int):=by omega
 generalize x.length=nx at *
 clear hz hX e;go_enter Tryz.func176,Tryz.ntmps176;go_wp2;go_ret;exact ⟨rfl,dn_⟩
theorem Mx.C_drop {W:World} {o:Nat} {bs:List (Nat×Nat)} {rows:List (List Int)} (h:Mx W o bs rows) (k:Nat) (hl:rows.length<=1000) (hr: ∀row,row∈rows->row.length<=1000):Kd.C (dM 3 .i64) W (some ⟨o,k,none⟩) (rows.drop k).length (rows.drop k):=by
 refine ⟨rfl,by simp;omega,fun _=>⟨_,rfl,fun j p hp=> ?_⟩⟩;rw [List.getElem?_drop] at hp;have hj:=(Zk hp).1;obtain ⟨⟨b,c⟩,hb⟩: ∃q,bs[k+j]?=some q:=⟨_,Zf (by have:=h.len;omega)⟩;obtain ⟨hc,cs,h1,h2⟩:=h.inner _ b c p hb hp;refine ⟨[.slice (some ⟨b,0,none⟩) p.length c],rfl,⟨some ⟨b,0,none⟩,c,rfl,hc,rfl,?_,fun _=>⟨_,rfl,fun i x hx=>⟨[.int .i64 x],rfl,rfl,fun i' u hu=> ?_⟩⟩⟩,fun i u hu=> ?_⟩
 ·have:=hr p (Zo hp);omega
 ·cases i' with
  |succ i'=>simp at hu
  |zero=>
   obtain rfl:Value.int .i64 x=u:=by simpa using hu
   have e:(⟨b,0,none⟩:Addr).add (i*(Kd.int .i64).sz+0)=⟨b,i,none⟩:=by
    show (⟨b,0,none⟩:Addr).add (i*1+0)=_;unfold Addr.add;split<;>simp_all
   rw [e,aaz h1 i];exact h2 i x hx
 ·cases i with
  |succ i=>simp at hu
  |zero=>
   obtain rfl:Value.slice (some ⟨b,0,none⟩) p.length c=u:=by simpa using hu
   have e:(⟨o,k,none⟩:Addr).add (j*(dM 3 .i64).sz+0)=⟨o,k+j,none⟩:=by
    show (⟨o,k,none⟩:Addr).add (j*1+0)=_;unfold Addr.add;split<;>simp_all
   rw [e];exact h.cIz hb hp
theorem reduce.calls (g o : Nat) (wb : Int) (S0 Sx : Nat -> Prop) (m co L cols : Nat) (bs : List (Nat × Nat)) (rows : List (List Int)) (W : World) (hw : wb = 8 \/ wb = 16) (hF : Fd W g wb (fpoly wb) Sx) (hx : ∀ k, S0 k -> Sx k) (hS : ∀ k, Sx k -> k < W.heap.size)
  (hM:Mx W o bs rows) (hSb: ∀(i b c:Nat),bs[i]?=some (b,c)->S0 b) (hSo:S0 o) (hm:rows.length=m) (hmm:m<=100) (hmc:m<=co) (hL: ∀row,row∈rows->row.length=L) (hLL:L<=1000) (hcl:cols<=L):
  Calls Tryz.prog 144 #[.pointer (some ⟨g,0,none⟩), .slice (some ⟨o,0,none⟩) m co, .int .i64 (cols:Int)] W fun e w'=>e= .returned (.int .i64 ((redF wb cols 0 rows 0).2:Int))/\(∃bs',Mx w' o bs' (redF wb cols 0 rows 0).1)/\Fd w' g wb (fpoly wb) Sx/\BS W w' g S0:=by
 obtain ⟨R,hR⟩: ∃R,redF wb cols 0 rows 0=R:=⟨_,rfl⟩;rw [hR];have hgl:=hF.lt;have hb1:BB W (((W.alloc (.cells #[.pointer (some ⟨g,0,none⟩)] 72)).alloc (.cells #[.slice (some ⟨o,0,none⟩) m co] 69)).alloc (.cells #[.int .i64 0] 3)) g:=(((BB.refl W g).alloc _).alloc _).alloc _;obtain ⟨S,hSd⟩: ∃S:Nat->Prop,S=(fun k=>Sx k\/k=W.heap.size+1+1):=⟨_,rfl⟩;have HSX:Aside0 (∀k,Sx k->S k):=⟨by subst hSd;exact fun k hk=> .inl hk⟩
 have HI:Aside0 (RedSt W (((W.alloc (.cells #[.pointer (some ⟨g,0,none⟩)] 72)).alloc (.cells #[.slice (some ⟨o,0,none⟩) m co] 69)).alloc (.cells #[.int .i64 0] 3)) g W.heap.size (W.heap.size+1) (W.heap.size+1+1) o wb S S0 m co L 0 bs rows):=by
  subst hSd;refine ⟨⟨?_,⟨?_,?_,?_,fun s=>by have:=hS _ (hx _ s);omega,fun s=>by have:=hS _ (hx _ s);omega,fun s=>by have:=hS _ (hx _ s);omega,by omega,by omega,by omega⟩,?_,BS.of_bb hb1,hSb,hSo,fun k hk=> .inl (hx k hk), .inr rfl,hm,hL,by omega,by omega,by omega⟩⟩
  ·exact ((hM.alloc _).alloc _).alloc _
  ·exact aEz (aEz (b7z W _) _) _
  ·exact aEz (bBz _ _ _ (by simp)) _
  ·exact bBz _ _ _ (by simp)
  ·exact (((hF.more.thin (fun k hk hs=>hs.elim .inl (fun e=> .inr (by omega)))).alloc _).alloc _).alloc _
 have HW:=Za hw;have HS:=Za (show∀k,S k->k<(((W.alloc (.cells #[.pointer (some ⟨g,0,none⟩)] 72)).alloc (.cells #[.slice (some ⟨o,0,none⟩) m co] 69)).alloc (.cells #[.int .i64 0] 3)).heap.size from fun k hk=>by subst hSd;rcases hk with hk|hk;(have:=hS k hk;simp;omega);(simp;omega));have HR:=Za (show redF wb (cols - 0) 0 rows 0=R from hR);clear hSd hw hF hS hx hM hSb hSo hm hL hR hb1;go_enter Tryz.func144,Tryz.ntmps144;go_wp2
 go_step3
 go_wp2
 go_step3
 go_wp2;generalize ((W.alloc (.cells #[.pointer (some ⟨g,0,none⟩)] 72)).alloc (.cells #[.slice (some ⟨o,0,none⟩) m co] 69)).alloc (.cells #[.int .i64 0] 3)=W3 at HI HS|-;generalize W.heap.size+1+1=tb at HI|-;generalize W.heap.size+1=ab at HI|-;generalize W.heap.size=fb at HI|-
 go_loopw [19] (fun i wr=> ∃(c at_:Nat) (bs':List (Nat×Nat)) (rows':List (List Int)),i= .int .i64 (c:Int)/\c<=cols/\at_<=m/\Aside0 (redF wb (cols - c) c rows' at_=R)/\Aside0 (RedSt W wr g fb ab tb o wb S S0 m co L at_ bs' rows')/\Aside0 (W3.heap.size<=wr.heap.size)) (fun i _=>cols - (intOf i).toNat)
 case atStart=>exact ⟨0,0,bs,rows,rfl,Nat.zero_le _,Nat.zero_le _,HR,HI,⟨Zv _⟩⟩
 clear HR HI;obtain ⟨c,at_,bs',rows',rfl,hc,hat,HR,HI,HZ⟩:=hrel;by_cases hlt:c<cols
 ·have ht0:wr.cell? ⟨tb,0,none⟩=some (.int .i64 (at_:Int)):=(aaz HI.out.rd.t 0).trans rfl;have ha0:wr.cell? ⟨ab,0,none⟩=some (.slice (some ⟨o,0,none⟩) m co):=(aaz HI.out.rd.a 0).trans rfl;have hR1:=HR.out;rw [show cols - c=(cols - (c+1))+1 by omega,redF] at hR1;by_cases hatm:at_=m
  ·subst hatm;rw [Ya HI.out.len.symm] at hR1;have HR1:=Za hR1;have hself:((at_:Int)==(at_:Int))=true:=by simp
   have HI1:=Za (HI.out.alloc (.cells #[.int .i64 (c:Int)] 3));have ht1:(wr.alloc (.cells #[.int .i64 (c:Int)] 3)).cell? ⟨tb,0,none⟩=some (.int .i64 (at_:Int)):=(aaz HI1.out.rd.t 0).trans rfl;have ha1:(wr.alloc (.cells #[.int .i64 (c:Int)] 3)).cell? ⟨ab,0,none⟩=some (.slice (some ⟨o,0,none⟩) at_ co):=(aaz HI1.out.rd.a 0).trans rfl;clear hR1 HR hc;go_wp2;rw [Exit.noGoto_ret];go_ret;rw [<-HR1.out];exact ⟨rfl,⟨bs',HI1.out.mx⟩,HI1.out.fd.thin (fun k _ hk=>HSX.out k hk),HI1.out.bsw⟩
  ·rw [Yb (by rw [HI.out.len];exact hatm)] at hR1;have hatlt:at_<m:=by omega
   have hself:((at_:Int)==(m:Int))=false:=by simp;omega
   have HR1:=Za hR1;have HI1:=Za (HI.out.alloc (.cells #[.int .i64 (c:Int)] 3));have ht1:(wr.alloc (.cells #[.int .i64 (c:Int)] 3)).cell? ⟨tb,0,none⟩=some (.int .i64 (at_:Int)):=(aaz HI1.out.rd.t 0).trans rfl;have ha1:(wr.alloc (.cells #[.int .i64 (c:Int)] 3)).cell? ⟨ab,0,none⟩=some (.slice (some ⟨o,0,none⟩) m co):=(aaz HI1.out.rd.a 0).trans rfl;have hcb:(wr.alloc (.cells #[.int .i64 (c:Int)] 3)).heap[wr.heap.size]?=some (.cells #[.int .i64 (c:Int)] 3 (0,0)):=heap_alloc_new _ _;have HZ1:=Za (show W3.heap.size<=(wr.alloc (.cells #[.int .i64 (c:Int)] 3)).heap.size by have:=HZ.out;simp;omega)
   have HNB:=Za (show wr.heap.size≠g/\ ¬S wr.heap.size by
    refine ⟨fun e=> ?_,fun hs=> ?_⟩
    ·have:=HI.out.fd.lt;omega
    ·have:=HS.out _ hs;have:=HZ.out;omega)
   clear hR1 HR hatm ht0 ha0 HZ
   go_wp2_with fail
   have HCB:=Za hcb;generalize wr.heap.size=cb at hcb HCB HNB|-;generalize wr.alloc (.cells #[.int .i64 (c:Int)] 3)=w1 at ht1 ha1 hcb HCB HI1 HZ1|-;clear HI;have hcb0:w1.cell? ⟨cb,0,none⟩=some (.int .i64 (c:Int)):=(aaz HCB.out 0).trans rfl;have hdl:(rows'.drop at_).length=m - at_:=by rw [List.length_drop,HI1.out.len]
   have HIDX:=Za (idx_reduce2.calls (nzB c) (.pointer (some ⟨cb,0,none⟩)) (some ⟨o,at_,none⟩) (co - at_) (rows'.drop at_) w1.drew (HI1.out.mx.drew.C_drop at_ (by rw [HI1.out.len];omega) (fun r hr=>by rw [HI1.out.each r hr];exact hLL)) (by rw [hdl];omega) (fun m' x A' c' hx hcx hX=>reduce2.calls cb c x.length c' A' x _ hcb0 hX (by rw [HI1.out.each x (List.mem_of_mem_drop hx)];omega)));have hzr:=dOz (nzB c) (rows'.drop at_);rw [hdl] at HIDX hzr;have HRS:=Za (show redStep wb c rows' at_=redStep wb c rows' at_ from rfl);obtain ⟨z,hz⟩: ∃z,idxF (nzB c) (rows'.drop at_)=z:=⟨_,rfl⟩;rw [hz] at HIDX hzr;have HZE:=Za hz;have hz1: -1<=z:=hzr.1;have hz2:z<((m - at_:Nat):Int):=hzr.2.1;have hz3:z<(m:Int) - (at_:Int):=by omega
   have i1:(0:Int)<=(at_:Int):=by omega
   have i2:(at_:Int)<=(m:Int):=by omega
   have hco: ¬co=at_:=by omega
   have hco': ¬at_=co:=by omega
   have hmf: ∀(fn:Fn) (first cap:Array Value) (w:World),(Instr.makeFunc fn first cap).run Tryz.prog w= .ok (.func fn first cap) w:=fun _ _ _ _=>rfl
   clear hz hzr hdl hcb;refine clz (n:=8) (S:=fun w'=>w'.cell? ⟨tb,0,none⟩=some (.int .i64 (at_:Int))/\w'.cell? ⟨ab,0,none⟩=some (.slice (some ⟨o,0,none⟩) m co)) (ds:= []) (bA 8 0) kr_ rfl rfl ⟨ht1,ha1⟩ (fun hHeld=> ?_);refine pu_ 4 30 16 ?_;refine tk_ 0 26 17 hHeld ?_;refine tk_ 1 27 19 hHeld ?_;refine tk_ 2 28 23 hHeld ?_;refine pu_ 3 29 31 ?_;refine one_ (i:=5) (N:=some 31) (bA 8 63) rfl rfl kr_ (by decide) (fun K hK=> ?_);refine goes_ Tryz.func175 kr_ rfl #[.slice (some ⟨o,at_,none⟩) (m - at_) (co - at_), .func (.func 176) #[] #[.pointer (some ⟨cb,0,none⟩)]] (by rfl) rfl rfl am_ ?_
   with_reducible refine (HIDX.out).mono ?_
   rintro e w3 ⟨rfl,n3,rfl⟩;refine ⟨_,rfl,?_⟩;refine hK.out _ _ ⟨ht1,ha1⟩ (fun hHeld=> ?_);clear hK K;refine norm_ (a':= ?_) ?_ ?_;rotate_left
   ·show Act.put _ (some 31) _=_;simp only [Act.put,Zg,Zh,Zi,i64_w,i32_w];rfl
   refine pu_ 6 32 127 ?_;refine pu_ 7 10 255 ?_;refine done_ kr_ ?_;have hwr:wrap64 ((at_:Int)+z)=(at_:Int)+z:=by unfold wrap64;omega
   rw [hwr];clear hwr HIDX hHeld;have HI2:=Za (HI1.out.drew.drewN n3);have hcb2:(w1.drew.drewN n3).heap[cb]?=some (.cells #[.int .i64 (c:Int)] 3 (0,0)):=HCB.out;have hz4:W3.heap.size<=(w1.drew.drewN n3).heap.size:=HZ1.out;clear HI1 ht1 ha1 hcb0 HCB HZ1;generalize w1.drew.drewN n3=w2 at HI2 hcb2 hz4|-;have HCB:=Za hcb2;have HZ1:=Za hz4;have ht1:w2.cell? ⟨tb,0,none⟩=some (.int .i64 (at_:Int)):=(aaz HI2.out.rd.t 0).trans rfl;clear hcb2 hz4;by_cases hneg:z<0
   ·have hk1:(at_:Int)+z<(at_:Int):=by omega
    have HR2:=Za (show redF wb (cols - (c+1)) (c+1) rows' at_=R by
     have h1:=HR1.out;have h2:redStep wb c rows' at_=(rows',at_):=by unfold redStep;rw [HZE.out];simp only [hneg,if_true]
     rw [h2] at h1;exact h1)
    clear HR1 HZE HRS;go_wp2;go_roundw
    case rel=>exact ⟨c+1,at_,bs',rows',by go_num,by omega,hat,HR2,HI2,HZ1⟩
    case measure=>simp [intOf];omega
   ·obtain ⟨k,hk⟩: ∃k:Nat,(at_:Int)+z=(k:Int):=⟨at_+z.toNat,by omega⟩;have hkz:at_+z.toNat=k:=by omega
    rw [hk];have hkm:k<m:=by omega
    have hka:at_<=k:=by omega
    have HR2:=Za HR1.out
    have HST:=Za (show redStep wb c rows' at_=(clrAll wb at_ c (List.zipWith (fun x _=>gmul wb x (ginv wb (((swapL rows' at_ k).getD at_ []).getD c 0))) ((swapL rows' at_ k).getD at_ []) ((swapL rows' at_ k).getD at_ [])) ((swapL rows' at_ k).set at_ (List.zipWith (fun x _=>gmul wb x (ginv wb (((swapL rows' at_ k).getD at_ []).getD c 0))) ((swapL rows' at_ k).getD at_ []) ((swapL rows' at_ k).getD at_ []))),at_+1) by
     unfold redStep;rw [HZE.out];simp only [hneg,if_false];rw [hkz])
    rw [HST.out] at HR2;have hnk: ¬((k:Int)<(at_:Int)):=by omega
    clear HR1 HST HRS HZE hk hkz hz1 hz2 hz3 hneg
    go_wp2_with fail
    obtain ⟨⟨ba,ca⟩,hba⟩: ∃q,bs'[at_]?=some q:=⟨_,Zf (by have:=HI2.out.mx.len;have:=HI2.out.len;omega)⟩;obtain ⟨⟨bk,ck⟩,hbk⟩: ∃q,bs'[k]?=some q:=⟨_,Zf (by have:=HI2.out.mx.len;have:=HI2.out.len;omega)⟩;obtain ⟨ra,hra⟩: ∃r,rows'[at_]?=some r:=⟨_,Zf (by have:=HI2.out.len;omega)⟩;obtain ⟨rk,hrk⟩: ∃r,rows'[k]?=some r:=⟨_,Zf (by have:=HI2.out.len;omega)⟩;have lra:=HI2.out.each ra (Zo hra);have lrk:=HI2.out.each rk (Zo hrk);have hca:w2.cell? ⟨o,at_,none⟩=some (.slice (some ⟨ba,0,none⟩) L ca):=by rw [HI2.out.mx.cIz hba hra,lra]
    have hck:w2.cell? ⟨o,k,none⟩=some (.slice (some ⟨bk,0,none⟩) L ck):=by rw [HI2.out.mx.cIz hbk hrk,lrk]
    have hfa:=HI2.out.mx.froz_o at_;have hfk:=HI2.out.mx.froz_o k;obtain ⟨v',hck2⟩:=cell?_setCell_some (w:=w2) (p:=⟨o,at_,none⟩) (x:= .slice (some ⟨bk,0,none⟩) L ck) (q:=⟨o,k,none⟩) (v:= .slice (some ⟨bk,0,none⟩) L ck) hck;have ha1:w2.cell? ⟨ab,0,none⟩=some (.slice (some ⟨o,0,none⟩) m co):=(aaz HI2.out.rd.a 0).trans rfl;have HSW:=Za (HI2.out.swap hba hbk);have HBK:=Za (dsz bs' at_ k _ _ hba hbk at_);have HRK:=Za (dsz rows' at_ k _ _ hra hrk at_);have HLRK:=Za lrk;have HLRA:=Za lra;have k1:(0:Int)<=(k:Int):=by omega
    have k2:(k:Int)<(m:Int):=by omega
    have k3:(at_:Int)<(m:Int):=by omega
    have hneo:tb≠o/\ab≠o:=⟨fun e=>HI2.out.rd.tS (e▸HI2.out.so),fun e=>HI2.out.rd.aS (e▸HI2.out.so)⟩;have htS:(w2.setCell ⟨o,at_,none⟩ (.slice (some ⟨bk,0,none⟩) L ck)).cell? ⟨tb,0,none⟩=some (.int .i64 (at_:Int)):=(World.cell?_setCell_other _ ⟨o,at_,none⟩ ⟨tb,0,none⟩ _ (fun e=>hneo.1 (congrArg Addr.block e).symm)).trans ht1;have haS:(w2.setCell ⟨o,at_,none⟩ (.slice (some ⟨bk,0,none⟩) L ck)).cell? ⟨ab,0,none⟩=some (.slice (some ⟨o,0,none⟩) m co):=(World.cell?_setCell_other _ ⟨o,at_,none⟩ ⟨ab,0,none⟩ _ (fun e=>hneo.2 (congrArg Addr.block e).symm)).trans ha1;clear hba hbk hra hrk lra lrk hneo;refine clz (n:=16) (S:=fun w'=>w'.cell? ⟨tb,0,none⟩=some (.int .i64 (at_:Int))/\w'.cell? ⟨ab,0,none⟩=some (.slice (some ⟨o,0,none⟩) m co)) (ds:= [15]) (bA 16 0) kr_ rfl rfl ⟨ht1,ha1⟩ (fun hHeld=> ?_);refine pu_ 3 39 8 ?_;refine pu_ 5 41 40 ?_;refine tk_ 0 36 41 hHeld ?_;refine tk_ 1 37 43 hHeld ?_;refine tk_ 2 38 47 hHeld ?_
    refine tk_ 4 40 63 hHeld ?_;refine pu_ 6 42 127 ?_;refine tk_ 8 44 383 hHeld ?_;refine tk_ 9 45 895 hHeld ?_;refine pu_ 10 46 1919 ?_;refine join_ (σ:=Unit) 4 (bA 16 4095) (fun _=> [(43, .slice (some ⟨bk,0,none⟩) L ck),(47, .slice (some ⟨ba,0,none⟩) L ca)]) (fun _ w'=>w'=w2.drew) ?_ ?_;rotate_left
    ·intro hCont;refine two_ (i:=7) (j:=11) (Ni:=some 43) (Nj:=some 47) (bA 16 2047) (bA 16 3967) rfl rfl rfl rfl kr_ (by decide) (by decide) (fun K hK=> ?_) (fun K hK=> ?_)
     ·skip
      refine cez (w1:= ?_) (v:= ?_) (by rfl) rfl ?_ ?_;rotate_left 2
      ·go_simp;constructor
       ·rfl
       ·rfl
      refine hK.out _ _ ⟨ht1,ha1⟩ (fun hHeld=> ?_);clear hK K;refine norm_ (a':= ?_) ?_ ?_;rotate_left
      ·show Act.put _ (some 43) _=_;simp only [Act.put,Zg,Zh,Zi,i64_w,i32_w];rfl
      refine one_ (i:=11) (N:=some 47) (bA 16 4095) rfl rfl kr_ (by decide) (fun K hK=> ?_);refine cez (w1:= ?_) (v:= ?_) (by rfl) rfl ?_ ?_;rotate_left 2
      ·go_simp;constructor
       ·rfl
       ·rfl
      refine hK.out _ _ ⟨ht1,ha1⟩ (fun hHeld=> ?_);clear hK K;refine norm_ (a':= ?_) ?_ ?_;rotate_left
      ·show Act.put _ (some 47) _=_;simp only [Act.put,Zg,Zh,Zi,i64_w,i32_w];rfl
      exact norm_ (by simp only [putAll,Act.put,Zg,Zh,Zi]) (hCont () _ rfl)
     ·skip
      refine cez (w1:= ?_) (v:= ?_) (by rfl) rfl ?_ ?_;rotate_left 2
      ·go_simp;constructor
       ·rfl
       ·rfl
      refine hK.out _ _ ⟨ht1,ha1⟩ (fun hHeld=> ?_);clear hK K;refine norm_ (a':= ?_) ?_ ?_;rotate_left
      ·show Act.put _ (some 47) _=_;simp only [Act.put,Zg,Zh,Zi,i64_w,i32_w];rfl
      refine one_ (i:=7) (N:=some 43) (bA 16 4095) rfl rfl kr_ (by decide) (fun K hK=> ?_);refine cez (w1:= ?_) (v:= ?_) (by rfl) rfl ?_ ?_;rotate_left 2
      ·go_simp;constructor
       ·rfl
       ·rfl
      refine hK.out _ _ ⟨ht1,ha1⟩ (fun hHeld=> ?_);clear hK K;refine norm_ (a':= ?_) ?_ ?_;rotate_left
      ·show Act.put _ (some 43) _=_;simp only [Act.put,Zg,Zh,Zi,i64_w,i32_w];rfl
      exact norm_ (by simp only [putAll,Act.put,Zg,Zh,Zi]) (hCont () _ rfl)
    rintro _ w' rfl;have hHeld:w2.drew.cell? ⟨tb,0,none⟩=some (.int .i64 (at_:Int))/\w2.drew.cell? ⟨ab,0,none⟩=some (.slice (some ⟨o,0,none⟩) m co):=⟨ht1,ha1⟩;refine norm_ (a':= ?_) ?_ ?_;rotate_left
    ·simp only [putAll,Act.put,Zg,Zh,Zi];rfl
    refine pu_ 12 48 8191 ?_;refine one_ (i:=13) (N:=none) (bA 16 16383) rfl rfl kr_ (by decide) (fun K hK=> ?_);refine skip_ (w1:= ?_) (by rfl) rfl ?_ ?_;rotate_left
    ·go_simp;rfl
    refine hK.out _ _ ⟨htS,haS⟩ (fun hHeld=> ?_);clear hK K;refine pu_ 14 49 32767 ?_;refine last_ (i:=15) (N:=none) (bA 16 65535) rfl rfl kr_ (by decide) (fun K hK=> ?_);refine skip_ (w1:= ?_) (by rfl) rfl ?_ ?_;rotate_left
    ·go_simp;rfl
    refine hK.out _ _ ?_;clear hK K;refine done_ kr_ ?_;clear hHeld htS haS hck2 hca hck hfa hfk ht1 ha1;have HI3:=Za HSW.out.drew;have hcb3:((w2.setCell ⟨o,at_,none⟩ (.slice (some ⟨bk,0,none⟩) L ck)).setCell ⟨o,k,none⟩ (.slice (some ⟨ba,0,none⟩) L ca)).drew.heap[cb]?=some (.cells #[.int .i64 (c:Int)] 3 (0,0)):=bHz (bHz HCB.out (fun e=>HNB.out.2 (HI2.out.s0 _ (e▸HI2.out.so))) _) (fun e=>HNB.out.2 (HI2.out.s0 _ (e▸HI2.out.so))) _;have hz5:W3.heap.size<=((w2.setCell ⟨o,at_,none⟩ (.slice (some ⟨bk,0,none⟩) L ck)).setCell ⟨o,k,none⟩ (.slice (some ⟨ba,0,none⟩) L ca)).drew.heap.size:=by simpa using HZ1.out
    clear HSW HI2 HCB HZ1;generalize ((w2.setCell ⟨o,at_,none⟩ (.slice (some ⟨bk,0,none⟩) L ck)).setCell ⟨o,k,none⟩ (.slice (some ⟨ba,0,none⟩) L ca)).drew=w3 at HI3 hcb3 hz5|-;have HCB:=Za hcb3;have HZ1:=Za hz5;clear hcb3 hz5;clear HBK HRK HLRK HLRA;generalize swapL rows' at_ k=rows3 at HI3 HR2;generalize swapL bs' at_ k=bs3 at HI3;obtain ⟨⟨b3,c3⟩,hb3⟩: ∃q,bs3[at_]?=some q:=⟨_,Zf (by have:=HI3.out.mx.len;have:=HI3.out.len;omega)⟩;obtain ⟨pr,hpr⟩: ∃r,rows3[at_]?=some r:=⟨_,Zf (by have:=HI3.out.len;omega)⟩;have lpr:=HI3.out.each pr (Zo hpr);obtain ⟨x,hx⟩: ∃x,pr[c]?=some x:=⟨_,Zf (by omega)⟩;have hR3:=HR2.out;have e1:rows3.getD at_ [] =pr:=by rw [Zm,hpr];rfl
    have e2:pr.getD c 0=x:=by rw [Zm,hx];rfl
    rw [e1,e2] at hR3;have HR3:=Za hR3;have HB3:=Za hb3;have HPR:=Za hpr;have HLP:=Za lpr;have hf1:w3.cell? ⟨fb,0,none⟩=some (.pointer (some ⟨g,0,none⟩)):=(aaz HI3.out.rd.f 0).trans rfl;have ha1:w3.cell? ⟨ab,0,none⟩=some (.slice (some ⟨o,0,none⟩) m co):=(aaz HI3.out.rd.a 0).trans rfl;have ht1:w3.cell? ⟨tb,0,none⟩=some (.int .i64 (at_:Int)):=(aaz HI3.out.rd.t 0).trans rfl;have ho1:w3.cell? ⟨o,at_,none⟩=some (.slice (some ⟨b3,0,none⟩) L c3):=by rw [HI3.out.mx.cIz hb3 hpr,lpr]
    have hc1:w3.cell? ⟨cb,0,none⟩=some (.int .i64 (c:Int)):=(aaz HCB.out 0).trans rfl;have hx1:w3.cell? ⟨b3,c,none⟩=some (.int .i64 x):=HI3.out.mx.c4z hb3 hpr hx;have j1:(0:Int)<=(c:Int):=by omega
    have j2:(c:Int)<(L:Int):=by omega
    have HSI:=Za (show∀k,S k->k<w3.drew.heap.size from fun k hk=>Zp (HS.out k hk) HZ1.out);have HFI:=Za HI3.out.fd.drew;clear hb3 hpr lpr hx hR3 e1 e2 HR2
    go_wp2_with fail
    refine clz (n:=14) (S:=fun w'=>w'.cell? ⟨fb,0,none⟩=some (.pointer (some ⟨g,0,none⟩))/\w'.cell? ⟨ab,0,none⟩=some (.slice (some ⟨o,0,none⟩) m co)/\w'.cell? ⟨tb,0,none⟩=some (.int .i64 (at_:Int))/\w'.cell? ⟨o,at_,none⟩=some (.slice (some ⟨b3,0,none⟩) L c3)/\w'.cell? ⟨cb,0,none⟩=some (.int .i64 (c:Int))/\w'.cell? ⟨b3,c,none⟩=some (.int .i64 x)) (ds:= [8]) (bA 14 0) kr_ rfl rfl ⟨hf1,ha1,ht1,ho1,hc1,hx1⟩ (fun hHeld=> ?_);refine tk_ 0 51 1 hHeld ?_;refine tk_ 1 52 3 hHeld ?_;refine tk_ 2 53 7 hHeld ?_;refine pu_ 3 54 15 ?_;refine tk_ 4 55 31 hHeld ?_;refine tk_ 5 56 63 hHeld ?_;refine pu_ 6 57 127 ?_;refine tk_ 7 58 255 hHeld ?_;refine last_ (i:=8) (N:=some 59) (bA 14 511) rfl rfl kr_ (by decide) (fun K hK=> ?_);refine goes_ Tryz.func114 kr_ rfl #[.pointer (some ⟨g,0,none⟩), .int .i64 x] (by rfl) rfl rfl am_ ?_
    with_reducible refine (gf_Inv.calls g S wb x _ HW.out HFI.out HSI.out).mono ?_
    rintro e w4 ⟨rfl,q1,q2⟩;refine ⟨_,rfl,?_⟩;refine hK.out _ _ ?_;clear hK K;refine norm_ (a':= ?_) ?_ ?_;rotate_left
    ·show Act.put _ (some 59) _=_;simp only [Act.put,Zg,Zh,Zi,i64_w,i32_w];rfl
    refine pu_ 9 50 1023 ?_;refine pu_ 10 60 2047 ?_;refine pu_ 11 61 4095 ?_;refine pu_ 12 11 8191 ?_;refine pu_ 13 12 16383 ?_;refine done_ kr_ ?_;have q3:BB w3 w4 g:=⟨q2.os,q2.tape,q2.output,q2.size,q2.block⟩;have HI4:=Za (HI3.out.bb q1 q3);have HCB4:=Za ((q3.block _ (aPz HCB.out) HNB.out.1).trans HCB.out);have HZ4:=Za (Zt HZ1.out q3.size);clear hf1 ha1 ht1 ho1 hc1 hx1 HSI HFI q1 q2 q3 HI3 HCB HZ1;generalize (inF wb x&&x !=0)=okb;generalize ginv wb x=gi at HR3|-;have ha1:w4.cell? ⟨ab,0,none⟩=some (.slice (some ⟨o,0,none⟩) m co):=(aaz HI4.out.rd.a 0).trans rfl;have ht1:w4.cell? ⟨tb,0,none⟩=some (.int .i64 (at_:Int)):=(aaz HI4.out.rd.t 0).trans rfl;have ho1:w4.cell? ⟨o,at_,none⟩=some (.slice (some ⟨b3,0,none⟩) L c3):=by rw [HI4.out.mx.cIz HB3.out HPR.out,HLP.out]
    go_wp2;clear ha1 ht1 ho1
    go_loopw [67] (fun j wr2=> ∃jj:Nat,jj<=L/\j= .int .i64 (jj:Int)/\Aside0 (RedSt W wr2 g fb ab tb o wb S S0 m co L at_ bs3 (rows3.set at_ (mid (fun y _=>gmul wb y gi) pr pr jj)))/\Aside0 (wr2.heap[cb]?=some (.cells #[.int .i64 (c:Int)] 3 (0,0)))/\Aside0 (W3.heap.size<=wr2.heap.size)) (fun j _=>L - (intOf j).toNat)
    case atStart=>exact ⟨0,Nat.zero_le _,rfl,⟨by rw [mid_zero,set_same HPR.out];exact HI4.out⟩,HCB4,HZ4⟩
    clear HI4 HCB4 HZ4;obtain ⟨jj,hjj,rfl,HI5,HCB5,HZ5⟩:=hrel;have hatr:at_<rows3.length:=(Zk HPR.out).1;have HSELF:=Za (show (rows3.set at_ (mid (fun y _=>gmul wb y gi) pr pr jj))[at_]?=some (mid (fun y _=>gmul wb y gi) pr pr jj) from List.getElem?_set_self hatr);have HML:=Za (show (mid (fun y _=>gmul wb y gi) pr pr jj).length=L by rw [mid_length _ _ _ _ (by have:=HLP.out;omega) rfl,HLP.out]);by_cases hjl:jj<L
    ·obtain ⟨y,hy⟩: ∃y,pr[jj]?=some y:=⟨_,Zf (by have:=HLP.out;omega)⟩;have hmy:=mid_at (fun y _=>gmul wb y gi) pr pr jj y hy rfl;have HSTEP:=Za (mid_step (fun y _=>gmul wb y gi) pr pr jj y y hy hy rfl);have hy1:wr.cell? ⟨b3,jj,none⟩=some (.int .i64 y):=HI5.out.mx.c4z HB3.out HSELF.out hmy;have hfz:=HI5.out.mx.froz_i HB3.out jj;have hbl:=HI5.out.mx.lt_i HB3.out;have hbg:=HI5.out.ng.2 _ _ _ HB3.out;have hog:=HI5.out.ng.1;have hf1:wr.cell? ⟨fb,0,none⟩=some (.pointer (some ⟨g,0,none⟩)):=(aaz HI5.out.rd.f 0).trans rfl;have ha1:wr.cell? ⟨ab,0,none⟩=some (.slice (some ⟨o,0,none⟩) m co):=(aaz HI5.out.rd.a 0).trans rfl;have ht1:wr.cell? ⟨tb,0,none⟩=some (.int .i64 (at_:Int)):=(aaz HI5.out.rd.t 0).trans rfl;have ho1:wr.cell? ⟨o,at_,none⟩=some (.slice (some ⟨b3,0,none⟩) L c3):=by rw [HI5.out.mx.cIz HB3.out HSELF.out,HML.out]
     have HC5:=Za (fun (w6:World) (h:BB wr w6 g)=>Zb (cFz h hf1 HI5.out.rd.fg) (Zb (cFz h ha1 HI5.out.rd.ag) (Zb (cFz h ht1 HI5.out.rd.tg) (Zb (cFz h ho1 hog) (Zb (cFz h hy1 hbg) (froz_bb h (p:=⟨b3,jj,none⟩) hbl hfz hbg))))));have HSI:=Za (show∀k,S k->k<wr.drew.heap.size from fun k hk=>Zp (HS.out k hk) HZ5.out);have HFI:=Za HI5.out.fd.drew;have j3:(0:Int)<=(jj:Int):=by omega
     have j4:(jj:Int)<(L:Int):=by omega
     clear hy hmy hfz hbl hbg hog
     go_wp2_with fail
     refine clz (n:=11) (S:=fun w'=>w'.cell? ⟨fb,0,none⟩=some (.pointer (some ⟨g,0,none⟩))/\w'.cell? ⟨ab,0,none⟩=some (.slice (some ⟨o,0,none⟩) m co)/\w'.cell? ⟨tb,0,none⟩=some (.int .i64 (at_:Int))/\w'.cell? ⟨o,at_,none⟩=some (.slice (some ⟨b3,0,none⟩) L c3)) (ds:= [10]) (bA 11 0) kr_ rfl rfl ⟨hf1,ha1,ht1,ho1⟩ (fun hHeld=> ?_);refine pu_ 4 76 16 ?_;refine pu_ 6 78 80 ?_;refine pu_ 7 79 208 ?_;refine tk_ 0 72 209 hHeld ?_;refine tk_ 1 73 211 hHeld ?_;refine pu_ 2 74 215 ?_;refine tk_ 3 75 223 hHeld ?_;refine tk_ 5 77 255 hHeld ?_;refine one_ (i:=8) (N:=some 80) (bA 11 511) rfl rfl kr_ (by decide) (fun K hK=> ?_);refine goes_ Tryz.func103 kr_ rfl #[.pointer (some ⟨g,0,none⟩), .int .i64 y, .int .i64 gi] (by rfl) rfl rfl am_ ?_
     with_reducible refine (cOz.calls g S wb y gi _ HW.out HFI.out HSI.out).mono ?_
     rintro e w6 ⟨rfl,q1,q2⟩;refine ⟨_,rfl,?_⟩;have q3:BB wr w6 g:=⟨q2.os,q2.tape,q2.output,q2.size,q2.block⟩;obtain ⟨r1,r2,r3,r4,r5,r6⟩:=HC5.out w6 q3;have Q1:=Za q1;have Q3:=Za q3;clear q1 q2 q3;refine hK.out _ _ ⟨r1,r2,r3,r4⟩ (fun hHeld=> ?_);clear hK K;refine norm_ (a':= ?_) ?_ ?_;rotate_left
     ·show Act.put _ (some 80) _=_;simp only [Act.put,Zg,Zh,Zi,i64_w,i32_w];rfl
     refine pu_ 9 81 1023 ?_;refine last_ (i:=10) (N:=none) (bA 11 2047) rfl rfl kr_ (by decide) (fun K hK=> ?_);refine skip_ (w1:= ?_) (by rfl) rfl ?_ ?_;rotate_left
     ·go_simp;rfl
     refine hK.out _ _ ?_;clear hK K;refine done_ kr_ ?_;have HI6:=Za ((HI5.out.bb Q1.out Q3.out).setI HB3.out HSELF.out jj (gmul wb y gi));rw [HSTEP.out,List.set_set] at HI6;have HCB6:=Za (bHz ((Q3.out.block _ (aPz HCB5.out) HNB.out.1).trans HCB5.out) (show cb≠(⟨b3,jj,none⟩:Addr).block from fun e=>HNB.out.2 (HI5.out.s0 _ (e▸HI5.out.sb _ _ _ HB3.out))) (.int .i64 (gmul wb y gi)));have HZ6:=Za (show W3.heap.size<=(w6.setCell ⟨b3,jj,none⟩ (.int .i64 (gmul wb y gi))).heap.size by have h1:=HZ5.out;have h2:=Q3.out.size;simp;omega);clear hHeld r1 r2 r3 r4 r5 r6 hy1 hf1 ha1 ht1 ho1 HC5;go_wp2;go_roundw
     case rel=>exact ⟨jj+1,by omega,by go_num,HI6,HCB6,HZ6⟩
     case measure=>simp [intOf];omega
    ·obtain rfl:jj=L:=by omega
     have HI6:=Za HI5.out;have HP2:=Za (show mid (fun y _=>gmul wb y gi) pr pr jj=List.zipWith (fun y _=>gmul wb y gi) pr pr by rw [<-HLP.out];exact mid_full _ _ _ rfl);rw [HP2.out] at HI6 HML;clear HI5 HP2;have HPR2:=Za (show (rows3.set at_ (List.zipWith (fun y _=>gmul wb y gi) pr pr))[at_]?=some (List.zipWith (fun y _=>gmul wb y gi) pr pr) from List.getElem?_set_self hatr);clear HSELF;generalize List.zipWith (fun y _=>gmul wb y gi) pr pr=p2 at HI6 HML HPR2 HR3;generalize rows3.set at_ p2=rows4 at HI6 HPR2 HR3;have ha1:wr.cell? ⟨ab,0,none⟩=some (.slice (some ⟨o,0,none⟩) m co):=(aaz HI6.out.rd.a 0).trans rfl;go_wp2;clear ha1
     go_loopw [85] (fun i wr3=> ∃ii:Nat,ii<=m/\i= .int .i64 (ii:Int)/\Aside0 (RedSt W wr3 g fb ab tb o wb S S0 m co jj at_ bs3 (clrTo wb at_ c p2 rows4 ii))/\Aside0 (wr3.heap[cb]?=some (.cells #[.int .i64 (c:Int)] 3 (0,0)))/\Aside0 (W3.heap.size<=wr3.heap.size)) (fun i _=>m - (intOf i).toNat)
     case atStart=>exact ⟨0,Nat.zero_le _,rfl,⟨by rw [clrTo_zero];exact HI6.out⟩,HCB5,HZ5⟩
     have hlen4:=HI6.out.len;have heach4:=HI6.out.each;have HLEN:=Za hlen4;have HEACH:=Za heach4;clear HI6 HCB5 HZ5 hlen4 heach4;obtain ⟨ii,hii,rfl,HI7,HCB7,HZ7⟩:=hrel;by_cases hil:ii<m
     ·obtain ⟨⟨bi,ci⟩,hbi⟩: ∃q,bs3[ii]?=some q:=⟨_,Zf (by have:=HI7.out.mx.len;have:=HI7.out.len;omega)⟩;obtain ⟨row,hrow⟩: ∃r,rows4[ii]?=some r:=⟨_,Zf (by have:=HLEN.out;omega)⟩;have hct:=clrTo_at wb at_ c p2 rows4 ii row hrow;have lrow:=HEACH.out row (Zo hrow);have hoi:wr.cell? ⟨o,ii,none⟩=some (.slice (some ⟨bi,0,none⟩) jj ci):=by rw [HI7.out.mx.cIz hbi hct,lrow]
      have ht1:wr.cell? ⟨tb,0,none⟩=some (.int .i64 (at_:Int)):=(aaz HI7.out.rd.t 0).trans rfl;have hc1:wr.cell? ⟨cb,0,none⟩=some (.int .i64 (c:Int)):=(aaz HCB7.out 0).trans rfl;have i7:(0:Int)<=(ii:Int):=by omega
      have i8:(ii:Int)<(m:Int):=by omega
      by_cases hia:ii=at_
      ·have hne:((ii:Int) !=(at_:Int))=false:=by simp [hia]
       have HI8:=Za (show RedSt W wr g fb ab tb o wb S S0 m co jj at_ bs3 (clrTo wb at_ c p2 rows4 (ii+1)) by
        have e4:clrTo wb at_ c p2 rows4 (ii+1)=clrTo wb at_ c p2 rows4 ii:=by rw [hia];exact (clrTo_skip wb at_ c p2 rows4 p2 HPR2.out).symm
        rw [e4];exact HI7.out)
       clear hbi hrow hct lrow hia;go_wp2;go_roundw
       case rel=>exact ⟨ii+1,by omega,by go_num,HI8,HCB7,HZ7⟩
       case measure=>simp [intOf];omega
      ·have hne:((ii:Int) !=(at_:Int))=true:=by simp;omega
       obtain ⟨n,hn⟩: ∃n,row[c]?=some n:=⟨_,Zf (by omega)⟩;have e3:row.getD c 0=n:=by rw [Zm,hn];rfl
       have HST:=Za (clrTo_step wb at_ c p2 rows4 ii row hrow hia);rw [e3] at HST
       have HEA2:=Za (show∀r,r∈clrTo wb at_ c p2 rows4 (ii+1)->r.length=jj by
        rw [<-HST.out];intro r hr;rcases List.mem_or_eq_of_mem_set hr with h1|h1
        ·exact HI7.out.each r h1
        ·rw [h1,List.length_zipWith,lrow,HML.out,Nat.min_self])
       have HLR:=Za (show (List.zipWith (clrF wb n) row p2).length=jj by rw [List.length_zipWith,lrow,HML.out,Nat.min_self]);have HCC:=Za (clear.calls g fb ab tb o wb S S0 m co ii at_ bi ci b3 c3 c jj n bs3 _ row p2 wr HW.out HI7.out.fd (fun k hk=>Zp (HS.out k hk) HZ7.out) HI7.out.mx HI7.out.sb HI7.out.s0 HI7.out.rd hatlt hbi hct HB3.out (clrTo_pr wb at_ c p2 rows4 ii HPR2.out) hia lrow HML.out hLL hn);clear hbi hrow hct lrow hia hn e3
       go_wp2_with (first|(go_at_call 174;refine HCC.out.mono ?_;rintro e w7 ⟨rfl,u1,u2,u3⟩))
       rw [HST.out] at u1;have HI8:=Za (HI7.out.clr u1 u2 u3 (by rw [clrTo_length _ _ _ _ _ _ (by have:=HLEN.out;omega)];exact HLEN.out) (fun r hr=>HEA2.out r hr));have HCB8:=Za (u3.blk HCB7.out HNB.out.1 (fun hs=>HNB.out.2 (HI7.out.s0 _ hs)));have HZ8:=Za (Zt HZ7.out u3.size);clear u1 u2 u3;go_roundw
       case rel=>exact ⟨ii+1,by omega,by go_num,HI8,HCB8,HZ8⟩
       case measure=>simp [intOf];omega
     ·have hie:ii=m:=by omega
      have HI8:=Za (show RedSt W wr g fb ab tb o wb S S0 m co jj at_ bs3 (clrAll wb at_ c p2 rows4) by
       have e5:clrTo wb at_ c p2 rows4 ii=clrAll wb at_ c p2 rows4:=by rw [hie, <-HLEN.out];exact clrTo_full _ _ _ _ _
       rw [<-e5];exact HI7.out)
      have ht1:wr.cell? ⟨tb,0,none⟩=some (.int .i64 (at_:Int)):=(aaz HI8.out.rd.t 0).trans rfl;have htf:=a6z HI8.out.rd.t 0;have HI9:=Za (HI8.out.setT (at_+1));have hsum:((at_+1:Nat):Int)=(at_:Int)+1:=by omega
      rw [hsum] at HI9;clear HI7 HI8 hie hsum;go_wp2;go_roundw
      case rel=>exact ⟨c+1,at_+1,bs3,_,by go_num,by omega,by omega,HR3,HI9,⟨by have:=HZ7.out;simp;omega⟩⟩
      case measure=>simp [intOf];omega
 ·have hce:c=cols:=by omega
  subst hce;have HR1:=Za (show (rows',at_)=R by have:=HR.out;rwa [Nat.sub_self,redF] at this);have ht0:wr.cell? ⟨tb,0,none⟩=some (.int .i64 (at_:Int)):=(aaz HI.out.rd.t 0).trans rfl;clear HR;go_wp2;rw [Exit.noGoto_ret];go_ret;rw [<-HR1.out];exact ⟨rfl,⟨bs',HI.out.mx⟩,HI.out.fd.thin (fun k _ hk=>HSX.out k hk),HI.out.bsw⟩
theorem choose_list {β:Type} {P:Nat->β->Prop} : ∀(n:Nat),(∀i,i<n-> ∃q,P i q)-> ∃bs:List β,bs.length=n/\ ∀i q,bs[i]?=some q->P i q
 |0,_=>⟨[],rfl,fun i q h=>by simp at h⟩
 |n+1,h=>by
  obtain ⟨bs,hl,hb⟩:=choose_list n (fun i hi=>h i (by omega));obtain ⟨q,hq⟩:=h n (by omega);refine ⟨bs++ [q],by simp [hl],fun i q' hi=> ?_⟩;by_cases hlt:i<n
  ·rw [List.getElem?_append_left (by omega)] at hi;exact hb i q' hi
  ·have : i = n := by
    have:=(Zk hi).1;simp at this;omega
   subst this;rw [List.getElem?_append_right (by omega),hl,Nat.sub_self] at hi;obtain rfl:q=q':=by simpa using hi
   exact hq
theorem S_MxO {w : World} {B : Nat} {ok : Nat -> Prop} {v : Value} {rows : List (List Int)} (h : Kd.S (dM 3 .i64) 57 w B ok v rows) (hp : 0 < rows.length) (hr : ∀ r, r ∈ rows -> 0 < r.length) :
  ∃o co bs,v= .slice (some ⟨o,0,none⟩) rows.length co/\rows.length<=co/\B<=o/\Mx w o bs rows/\(∀(i b c:Nat),bs[i]?=some (b,c)->B<=b)/\ok o/\(∀(i b c:Nat),bs[i]?=some (b,c)->ok b):=by
 obtain ⟨f,h0,inner,ho,hrp⟩:=h;rw [List.length_zipIdx] at ho;have hown:=ho;obtain ⟨hil,hown⟩:=hown;rcases hown with ⟨-,hn⟩|⟨g,cap,cur,hv,hBg,hgb,hnc,hcm,hcs,hct⟩
 ·omega
 have e1:(Kd.tag f (dM 3 .i64)).sz=1:=rfl
 have hin: ∀i,i<rows.length->inner[i]?=cur[i]?:=fun i hi=>by
  rw [<-hct,List.getElem?_take_of_lt (by rw [e1];omega),Array.getElem?_toList]
 have hch: ∀i,i<rows.length-> ∃q:Nat×Nat, ∀row,rows[i]?=some row->cur[i]?=some (.slice (some ⟨q.1,0,none⟩) row.length q.2)/\row.length<=q.2/\B<=q.1/\(f q.1=i/\ok q.1)/\ ∃cs:Array Value,w.heap[q.1]?=some (.cells cs 3 (0,0))/\ ∀(j:Nat) (x:Int),row[j]?=some x->cs[j]?=some (.int .i64 x):=by
  intro i hi;obtain ⟨row,hrow⟩: ∃r,rows[i]?=some r:=⟨_,Zf hi⟩;have hz:rows.zipIdx[i]?=some (row,i):=by rw [List.getElem?_zipIdx,hrow];simp
  obtain ⟨u,hu,hR⟩:=hrp.2 i (row,i) hz;have hR':(Kd.int .i64).R 3 w B (fun k=>(ok k/\some k≠v.ownBlock)/\f k=i) u row:=hR;obtain ⟨b,c,rfl,hBb,hbl,cs,hcs'⟩:=Kd.R_form hR' (hr row (Zo hrow))
  have hu1:inner[i]?=some (.slice (some ⟨b,0,none⟩) row.length c):=by
   have:=congrArg (fun l=>l[0]?) hu
   simpa [e1,List.getElem?_take,List.getElem?_drop] using this
  have hfb:f b=i/\ok b:=⟨(hR'.1 b rfl).2,(hR'.1 b rfl).1.1⟩;refine ⟨(b,c),fun row' hrow'=> ?_⟩;obtain rfl:row=row':=by rw [hrow] at hrow';exact Zn hrow'
  refine ⟨by rw [<-hin i hi];exact hu1,(Kd.aNz hR').2.1,hBb,hfb,cs,hcs',fun j x hx=> ?_⟩;have hj:=(Zk hx).1;have hc:=(Kd.R_cell 0 hR' (j:Int) (by omega) (by omega)).1;rw [aaz hcs' _] at hc;have e2:rdOf 0 row (j:Int)=x:=by simp [rdOf,hx,Zk hx|>.2]
  rw [e2] at hc;exact hc
 obtain ⟨bs,hbl,hbs⟩:=choose_list rows.length hch;have hlt: ∀ {i q},bs[i]?=some q-> ∃row,rows[i]?=some row:=fun {i q} hb=>⟨_,Zf (by have:=(Zk hb).1;omega)⟩
 refine ⟨g,cap,bs,hv,hnc,hBg,⟨hbl,⟨cur,hgb,fun i b c row hb hrow=>(hbs i _ hb row hrow).1⟩,fun i b c row hb hrow=> ?_,?_⟩,fun i b c hb=> ?_,h0 g (by rw [hv];rfl),fun i b c hb=> ?_⟩
 ·obtain ⟨-,q2, -, -,q5⟩:=hbs i _ hb row hrow;exact ⟨q2,q5⟩
 ·rw [List.nodup_iff_pairwise_ne,List.pairwise_iff_getElem];intro i j hi hj hij he;rw [List.length_map] at hi hj;have hb1:bs[i]?=some bs[i] :=Zf hi;have hb2:bs[j]?=some bs[j] :=Zf hj;obtain ⟨r1,hr1⟩:=hlt hb1;obtain ⟨r2,hr2⟩:=hlt hb2;have f1:=(hbs i _ hb1 r1 hr1).2.2.2.1.1;have f2:=(hbs j _ hb2 r2 hr2).2.2.2.1.1;simp only [List.getElem_map] at he;rw [he] at f1;omega
 ·obtain ⟨row,hrow⟩:=hlt hb;exact (hbs i _ hb row hrow).2.2.1
 ·obtain ⟨row,hrow⟩:=hlt hb;exact (hbs i _ hb row hrow).2.2.2.1.2
theorem S_Mx {w : World} {B : Nat} {ok : Nat -> Prop} {v : Value} {rows : List (List Int)} (h : Kd.S (dM 3 .i64) 57 w B ok v rows) (hp : 0 < rows.length) (hr : ∀ r, r ∈ rows -> 0 < r.length) :
  ∃o co bs,v= .slice (some ⟨o,0,none⟩) rows.length co/\rows.length<=co/\B<=o/\Mx w o bs rows/\(∀(i b c:Nat),bs[i]?=some (b,c)->B<=b):=by
 obtain ⟨o,co,bs,h1,h2,h3,h4,h5, -, -⟩:=S_MxO h hp hr;exact ⟨o,co,bs,h1,h2,h3,h4,h5⟩
def identM (n:Nat):List (List Int):=(List.range n).map (fun i=>(List.replicate n 0).set i 1)
theorem identity_f: ∀n:Nat,n<21->1<=n->b2z.f 40 (n:Int)=some (identM n):=by decide+kernel
theorem bVz (n:Nat):(identM n).length=n:=by simp [identM]
theorem eOz {n:Nat} {r:List Int} (h:r∈identM n):r.length=n:=by
 simp only [identM,List.mem_map] at h;obtain ⟨i, -,rfl⟩:=h;simp
theorem ident.calls (n:Nat) (W:World) (h1:1<=n) (h2:n<21):Calls Tryz.prog 95 #[.int .i64 (n:Int)] W fun e w'=> ∃A c,e= .returned (.slice A (identM n).length c)/\Kd.C (Kd.slice 3 (Kd.int .i64)) w' A (identM n).length (identM n)/\Below W.heap.size W w':=by
 refine (b2z.calls 40 (n:Int) (identM n) W (identity_f n h2 h1)).mono ?_;rintro e w' ⟨v,rfl,hv,hb⟩;obtain ⟨A,c,rfl, -,hc⟩:=Kd.c6z (Kd.S_R hv);exact ⟨A,c,rfl,hc,hb⟩
theorem Mx.C_row {W:World} {o:Nat} {bs:List (Nat×Nat)} {rows:List (List Int)} (h:Mx W o bs rows) {i b c:Nat} {row:List Int} (hb:bs[i]?=some (b,c)) (hr:rows[i]?=some row) (n:Nat) (hl:row.length<=1000):Kd.C (Kd.int .i64) W (some ⟨b,n,none⟩) (row.drop n).length (row.drop n):=by
 obtain ⟨hc,cs,h1,h2⟩:=h.inner _ b c row hb hr;refine ⟨rfl,by simp;omega,fun _=>⟨_,rfl,fun j x hx=>⟨[.int .i64 x],rfl,rfl,fun i' u hu=> ?_⟩⟩⟩
 cases i' with
 |succ i'=>simp at hu
 |zero=>
  obtain rfl:Value.int .i64 x=u:=by simpa using hu
  have e:(⟨b,n,none⟩:Addr).add (j*(Kd.int .i64).sz+0)=⟨b,n+j,none⟩:=by
   show (⟨b,n,none⟩:Addr).add (j*1+0)=_;unfold Addr.add;split<;>simp_all
  rw [e,aaz h1 _];rw [List.getElem?_drop] at hx;exact h2 _ x hx
theorem zip_each {a b:List (List Int)} {n m:Nat} (ha: ∀r,r∈a->r.length=n) (hb: ∀r,r∈b->r.length=m): ∀r,r∈List.zipWith (· ++ ·) a b->r.length=n+m:=by
 intro r hr;obtain ⟨i,hi,rfl⟩:=List.getElem_of_mem hr;simp only [List.getElem_zipWith,List.length_append];rw [ha _ (List.getElem_mem _),hb _ (List.getElem_mem _)]
theorem d8z (wb:Int) (hw:wb=8\/wb=16) (n:Nat): ∀r,r∈identM n->Good wb n r:=by
 intro r hr;refine ⟨eOz hr,fun x hx=> ?_⟩
 have hz:(1:Int)<fsize wb:=by rcases hw with rfl|rfl<;>decide
 simp only [identM,List.mem_map] at hr;obtain ⟨i, -,rfl⟩:=hr;rcases List.mem_or_eq_of_mem_set hx with h|h
 ·have:=List.eq_of_mem_replicate h;omega
 ·omega
theorem fgz {wb:Int} {n m:Nat} {a b:List (List Int)} (ha: ∀r,r∈a->Good wb n r) (hb: ∀r,r∈b->Good wb m r): ∀r,r∈List.zipWith (· ++ ·) a b->Good wb (n+m) r:=by
 intro r hr;obtain ⟨i,hi,rfl⟩:=List.getElem_of_mem hr;rw [List.getElem_zipWith];have h1:=ha _ (List.getElem_mem (by simp at hi;omega:i<a.length));have h2:=hb _ (List.getElem_mem (by simp at hi;omega:i<b.length));exact ⟨by rw [List.length_append,h1.1,h2.1],fun x hx=>(List.mem_append.1 hx).elim (h1.2 x) (h2.2 x)⟩
def invF (wb:Int) (rows:List (List Int)):List (List Int)×Nat:=redF wb rows.length 0 (List.zipWith (· ++ ·) rows (identM rows.length)) 0
theorem invF_good {wb:Int} (hw:wb=8\/wb=16) (rows:List (List Int)) (h: ∀r,r∈rows->Good wb rows.length r):(∀r,r∈(invF wb rows).1->Good wb (rows.length+rows.length) r)/\(invF wb rows).1.length=rows.length:=by
 have h1:=redF_good hw (rows.length+rows.length) rows.length 0 _ 0 (fgz h (d8z wb hw rows.length));refine ⟨h1.1,h1.2.trans ?_⟩;rw [List.length_zipWith,bVz,Nat.min_self]
theorem Inverse.calls (g : Nat) (wb : Int) (S : Nat -> Prop) (A : Option Addr) (cap : Nat) (rows : List (List Int)) (W : World) (hw : wb = 8 \/ wb = 16) (hM : MayOk wb rows rows.length) (hF : Fd W g wb (fpoly wb) S) (hS : ∀ k, S k -> k < W.heap.size) (hC : Kd.C (dM 3 .i64) W A rows.length rows) :
  Calls Tryz.prog 97 #[.pointer (some ⟨g,0,none⟩), .slice A rows.length cap] W fun e w'=> ∃v,e= .returned (.tuple #[v, .int .i64 (if (invF wb rows).2<rows.length then 2 else 0)])/\(if (invF wb rows).2<rows.length then v= .slice none 0 0 else Kd.S (dM 3 .i64) 57 w' W.heap.size (fun _=>True) v ((invF wb rows).1.map (·.drop rows.length)))/\Fd w' g wb (fpoly wb) S/\BB W w' g:=by
 have HSQ:=Za (square.ok g S wb (fpoly wb) A cap rows W hw hM hF hC);have HW:=Za hw;have HM:=Za hM;have HF:=Za hF;have HS:=Za hS;have HC:=Za hC;have hn1:=hM.n1;have hn2:=hM.n2;obtain ⟨⟨res,d⟩,hR⟩: ∃R,invF wb rows=R:=⟨_,rfl⟩;rw [hR];have HR:=Za hR;obtain ⟨n,hn⟩: ∃n,rows.length=n:=⟨_,rfl⟩;have HNE:=Za hn;rw [hn] at HSQ hn1 hn2|-;clear hw hM hF hS hC hR hn;go_enter Tryz.func97,Tryz.ntmps97
 go_wp2_with (first|(go_at_call 142;refine HSQ.out.mono ?_;rintro e w1 ⟨rfl,hB⟩;have HB1:=Za hB;clear hB))
 clear HSQ;have HIDC:=Za (ident.calls n w1 hn1 (by omega))
 go_wp2_with fail
 refine HIDC.out.mono ?_;rw [bVz];rintro e w2 ⟨IA,ic,rfl,hIC,hB2⟩;have hIC:Kd.C (Kd.slice 3 (Kd.int .i64)) w2 IA (identM n).length (identM n):=by rw [bVz];exact hIC
 have HB2:=Za (HB1.out.trans (hB2.mono HB1.out.size));have hbs:=beside.calls A IA cap ic 0 rows (identM n) w2 (Kd.azz HC.out HB2.out) hIC (by rw [HNE.out];omega) (by rw [HNE.out,bVz];omega) (fun x hx=>by have:=(HM.out.each x hx).1;have:=HNE.out;omega) (fun x hx=>by rw [eOz hx];omega);rw [HNE.out,bVz] at hbs;have HBS:=Za hbs;clear hbs hIC hB2;have hwl:(List.zipWith (· ++ ·) rows (identM n)).length=n:=by rw [List.length_zipWith,HNE.out,bVz,Nat.min_self]
 have hwe: ∀r,r∈List.zipWith (· ++ ·) rows (identM n)->r.length=n+n:=zip_each (fun r hr=>by rw [(HM.out.each r hr).1,HNE.out]) (fun r hr=>eOz hr);have hrd:redF wb n 0 (List.zipWith (· ++ ·) rows (identM n)) 0=(res,d):=by rw [<-HR.out];unfold invF;rw [HNE.out]
 have HBS2:=HBS.out;obtain ⟨wide,hwide⟩: ∃wide,List.zipWith (· ++ ·) rows (identM n)=wide:=⟨_,rfl⟩;have hwg:=fgz (wb:=wb) (fun r hr=>(⟨(HM.out.each r hr).1,(HM.out.each r hr).2⟩:Good wb rows.length r)) (d8z wb HW.out n);rw [HNE.out] at hwg;rw [hwide] at hwl hwe hrd HBS2 hwg;have HWG:=Za hwg;clear hwg;have HRD:=Za hrd;have HBS2:=Za HBS2;have HWL:=Za hwl;have HWE:=Za hwe;clear HBS hwide hrd hwl hwe
 go_wp2_with fail
 have hwl:=HWL.out;have hwe:=HWE.out;refine HBS2.out.mono ?_;rintro e w3 ⟨v,rfl,hSv,hB3⟩;obtain ⟨o,co,bs,rfl,hco,hBo,hMx,hbs⟩:=S_Mx hSv (by omega) (fun r hr=>by have:=hwe r hr;omega);rw [hwl] at hco|-;have HB3:=Za (HB2.out.trans (hB3.mono HB2.out.size));have HFX:=Za (show Fd w3 g wb (fpoly wb) (fun k=>S k\/(w2.heap.size<=k/\k<w3.heap.size)) from ((HF.out.more).below HB3.out).thin (fun k hk hs=>hs.elim .inl (fun h=> .inr (Zt HB2.out.size h.1))));have hrc:=reduce.calls g o wb (fun k=>w2.heap.size<=k/\k<w3.heap.size) (fun k=>S k\/(w2.heap.size<=k/\k<w3.heap.size)) n co (n+n) n bs wide w3 HW.out HFX.out (fun k hk=> .inr hk) (fun k hk=>hk.elim (fun h=>Zp (HS.out k h) HB3.out.size) (fun h=>h.2)) hMx (fun i b c hb=>⟨hbs i b c hb,hMx.lt_i hb⟩) ⟨hBo,hMx.lt_o⟩ hwl (by omega) hco hwe (by omega) (by omega);have hred:=redF_good HW.out (n+n) n 0 wide 0 HWG.out;rw [HRD.out] at hrc hred;rw [hwl] at hred;have HRE:=Za hred
 have HRC:=Za hrc;clear hrc hred hSv hMx hbs hBo hwe hB3 hwl
 go_wp2_with fail
 refine HRC.out.mono ?_;rintro e w4 ⟨rfl,⟨bs',hM4⟩,hF4,hb4⟩;have HF4:=Za (hF4.thin (S':=S) (fun k _ hk=> .inl hk));have HBB:=Za (show BB W w4 g from ⟨hb4.os.trans HB3.out.os,hb4.tape.trans HB3.out.tape,hb4.output.trans HB3.out.output,Zt HB3.out.size hb4.size,fun i hi hg=>(hb4.block i (Zp hi HB3.out.size) hg (fun h=>by have:=HB2.out.size;omega)).trans (HB3.out.block i hi)⟩);have HM4:=Za (show Mx w4 o bs' res from hM4);clear hM4 hF4 hb4;clear HR HRD HRC HBS2 HIDC HFX HWL HWE hIC;have HRL:=Za (show res.length=n from HRE.out.2);have HRI:=Za (show∀r,r∈res->r.length=n+n from fun r hr=>(HRE.out.1 r hr).1);clear HRE;by_cases hdn:d<n
 ·have hdn':(d:Int)<(n:Int):=by omega
  go_wp2;go_ret2;exact ⟨_,rfl,rfl,HF4.out,HBB.out⟩
 ·have hdn': ¬(d:Int)<(n:Int):=by omega
  go_wp2
  go_loopw [8,29] (fun v i wr=> ∃k:Nat,k<=n/\i= .int .i64 (k:Int)/\Aside0 (Kd.S (dM 3 .i64) 57 wr w4.heap.size (fun _=>True) v ((res.take k).map (·.drop n)))/\Aside0 (Below w4.heap.size w4 wr)) (fun _ i _=>n - (intOf i).toNat)
  case atStart=>exact ⟨0,Nat.zero_le _,rfl,⟨Kd.S_nil _ _ _ _ _⟩,⟨Zw _ _⟩⟩
  obtain ⟨k,hk,rfl,HO,HB⟩:=hrel;by_cases hlt:k<n
  ·obtain ⟨x,hx⟩: ∃x,res[k]?=some x:=⟨_,Zf (by have:=HRL.out;omega)⟩;obtain ⟨⟨b,c⟩,hb⟩: ∃x,bs'[k]?=some x:=⟨_,Zf (by have:=HRL.out;have:=HM4.out.len;omega)⟩;have hxl:=HRI.out x (Zo hx);have hMr:=HM4.out.below HB.out;have hcell:=hMr.cIz hb hx;have hcc:=(hMr.inner _ b c x hb hx).1
   have HZ:=Za (show (res.take (k+1)).map (·.drop n)=(res.take k).map (·.drop n)++ [x.drop n] by
    rw [List.take_add_one,hx];simp)
   have hlz:((res.take k).map (·.drop n)).length<=1000:=by simp;omega
   have HLZ:=Za hlz;have hCr:=hMr.C_row hb hx n (by omega);have hcl:=clone_i.calls _ (c - n) (x.drop n) _ hCr (by simp;omega);have e1:(x.drop n).length=n:=by simp;omega
   rw [e1] at hcl;rw [hxl] at hcell hcc;have HCL:=Za hcl;have HE1:=Za e1;have j1:(n:Int)<=((n+n:Nat):Int):=by omega
   have j2: ¬c=n:=by omega
   have j2': ¬n=c:=by omega
   have j3:n+n - n=n:=by omega
   have j4:(0:Int)<=(n:Int):=by omega
   clear hx hb hMr hCr hcl hlz hxl e1
   go_wp2_with fail
   refine HCL.out.mono ?_;rintro e w5 ⟨u,rfl,hu,hb1⟩;obtain ⟨ua,uc,rfl⟩:=Kd.aRz hu;rw [HE1.out];have hsf:=d3z HO.out hb1 HB.out.size hu;rw [HE1.out] at hsf;have HS1:=Za hsf.1;have HM1:=Za hsf.2.1;have HOK:=Za hsf.2.2;have HB5:=Za (HB.out.trans (hb1.mono HB.out.size));have HBW:=Za (BB.trans HBB.out (BB.of_below (HB5.out) g));clear hu hb1 hsf
   go_wp2_with ((with_reducible refine anz (b:= .append) (xs:= #[.tmp 33, .tmp 38]) rfl ?_);go_must (at_builtin;refine Kd.bLz (dM 3 .i64) (w0:=w4) w4.heap.size rfl (.tmp 33) (.tmp 38) 69 57 (.slice none 0 0) 24 rfl Tryz.underlying69 kr_ rfl (by decide) (by decide) _ _ (x.drop n) [.slice ua n uc] (fun _=>True) (fun k'=>wr.heap.size<=k') rfl rfl HM1.out HOK.out (fun _ _=>trivial) HS1.out HB5.out HB5.out.size ?aL ?_;(case aL=>have:=HLZ.out;omega));intro v2 w6 ho2 hb2 hg2 hat2;have HO2:=Za ho2;have HB2:=Za hb2;clear ho2 hb2 hg2 hat2)
   go_roundw
   case rel=>exact ⟨k+1,by omega,by go_num,⟨by rw [HZ.out];exact HO2.out⟩,HB2⟩
   case measure=>simp [intOf];omega
  ·obtain rfl:k=n:=by omega
   have HFN:=Za HO.out;rw [List.take_of_length_le (by have:=HRL.out;omega)] at HFN;go_wp2;go_ret2;exact ⟨_,rfl,Kd.cJz HFN.out HBB.out.size,HF4.out.below HB.out,HBB.out.trans (BB.of_below HB.out g)⟩
def cutRow (wb c:Int) (i j:Nat) (x:List Int):List Int:=x.set j (Go.bits .xor .i64 (x.getD j 0) (gmul wb (x.getD i 0) c))
def cutTo (wb c:Int) (i j:Nat) (rows:List (List Int)) (k:Nat):List (List Int):=(rows.take k).map (cutRow wb c i j)++rows.drop k
def cutCol (wb c:Int) (i j:Nat) (rows:List (List Int)):List (List Int):=if j=i then rows else rows.map (cutRow wb c i j)
def cutF (wb:Int) (i:Nat):List Int->Nat->List (List Int)->List (List Int)
 | [],_,rows=>rows
 |c::cs,j,rows=>cutF wb i cs (j+1) (cutCol wb c i j rows)
theorem cutTo_zero (wb c:Int) (i j:Nat) (rows:List (List Int)):cutTo wb c i j rows 0=rows:=by simp [cutTo]
theorem cutTo_full (wb c:Int) (i j:Nat) (rows:List (List Int)):cutTo wb c i j rows rows.length=rows.map (cutRow wb c i j):=by simp [cutTo]
theorem cutTo_at (wb c:Int) (i j:Nat) (rows:List (List Int)) (k:Nat) (x:List Int) (h:rows[k]?=some x):(cutTo wb c i j rows k)[k]?=some x:=by
 have hi:=(Zk h).1;unfold cutTo;rw [List.getElem?_append_right (by simp;omega)];simp only [List.length_map,List.length_take,List.getElem?_drop];rw [show k+(k - min k rows.length)=k by omega];exact h
theorem cutTo_step (wb c:Int) (i j:Nat) (rows:List (List Int)) (k:Nat) (x:List Int) (h:rows[k]?=some x):(cutTo wb c i j rows k).set k (cutRow wb c i j x)=cutTo wb c i j rows (k+1):=by
 have hi:=(Zk h).1;obtain ⟨_,e⟩:=Zk h;unfold cutTo;rw [List.set_append_right _ _ (by simp;omega),List.length_map,List.length_take,show k - min k rows.length=0 by omega,List.drop_eq_getElem_cons hi,Zh,List.take_add_one,h,List.map_append,List.append_assoc];rfl
theorem cutRow_length (wb c:Int) (i j:Nat) (x:List Int):(cutRow wb c i j x).length=x.length:=by simp [cutRow]
theorem ePz {wb c:Int} {i j:Nat} {rows:List (List Int)} {L:Nat} (h: ∀r,r∈rows->r.length=L):(∀r,r∈cutCol wb c i j rows->r.length=L)/\(cutCol wb c i j rows).length=rows.length:=by
 unfold cutCol;split
 ·exact ⟨h,rfl⟩
 ·refine ⟨fun r hr=> ?_,by simp⟩;obtain ⟨q,hq,rfl⟩:=List.mem_map.1 hr;rw [cutRow_length];exact h q hq
theorem jclear.calls (g o : Nat) (wb : Int) (S0 S : Nat -> Prop) (n co L i : Nat) (bs : List (Nat × Nat)) (rows : List (List Int)) (row : List Int) (W : World) (hw : wb = 8 \/ wb = 16) (hF : Fd W g wb (fpoly wb) S) (hx : ∀ k, S0 k -> S k) (hS : ∀ k, S k -> k < W.heap.size)
  (hM:Mx W o bs rows) (hSb: ∀(i b c:Nat),bs[i]?=some (b,c)->S0 b) (hn:rows.length=n) (hco:n<=co) (hnn:n<=100) (hL: ∀r,r∈rows->r.length=L) (hLL:L<=100) (hL1:1<=L) (hi:i<n) (hiL:i<L) (hrow:rows[i]?=some row):
  Calls Tryz.prog 158 #[.agg #[.pointer (some ⟨g,0,none⟩), .slice (some ⟨o,0,none⟩) n co], .int .i64 (i:Int)] W fun e w'=>e= .returned (.tuple #[])/\Mx w' o bs (cutF wb i row 0 rows)/\Fd w' g wb (fpoly wb) S/\BS W w' g S0:=by
 have HW:=Za hw;obtain ⟨R0,hR0⟩: ∃R0,cutF wb i row 0 rows=R0:=⟨_,rfl⟩;have HR0:=Za (show cutF wb i (row.drop 0) 0 rows=R0 from hR0);rw [hR0];clear hR0;have HF:=Za (hF.more.alloc (.cells #[.pointer (some ⟨g,0,none⟩), .slice (some ⟨o,0,none⟩) n co] 146));have HX:=Za hx;have HS:=Za hS;have HM:=Za (hM.alloc (.cells #[.pointer (some ⟨g,0,none⟩), .slice (some ⟨o,0,none⟩) n co] 146));have HSB:=Za hSb;have HL:=Za hL;have HN:=Za hn;have hbx:(W.alloc (.cells #[.pointer (some ⟨g,0,none⟩), .slice (some ⟨o,0,none⟩) n co] 146)).heap[W.heap.size]?=some (.cells #[.pointer (some ⟨g,0,none⟩), .slice (some ⟨o,0,none⟩) n co] 146 (0,0)):=heap_alloc_new _ _;have HB:=Za (show BS W (W.alloc (.cells #[.pointer (some ⟨g,0,none⟩), .slice (some ⟨o,0,none⟩) n co] 146)) g S0 from BS.alloc (BS.refl _ _ _) _);have HGL:=Za hF.lt;have HROW:=Za hrow;have HOL:=Za hM.lt_o;have HRL:=Za (hL row (Zo hrow));have i1:(0:Int)<=(i:Int):=by omega
 have i2:(i:Int)<(n:Int):=by omega
 obtain ⟨⟨bi,ci⟩,hbi⟩: ∃q,bs[i]?=some q:=⟨_,Zf (by have:=hM.len;omega)⟩;have hb1:((W.alloc (.cells #[.pointer (some ⟨g,0,none⟩), .slice (some ⟨o,0,none⟩) n co] 146)).alloc (.cells #[] 3)).cell? ⟨W.heap.size,1,none⟩=some (.slice (some ⟨o,0,none⟩) n co):=(aaz (aEz hbx _) 1).trans rfl;have hM1:=HM.out.alloc (.cells #[] 3);have hco1:((W.alloc (.cells #[.pointer (some ⟨g,0,none⟩), .slice (some ⟨o,0,none⟩) n co] 146)).alloc (.cells #[] 3)).cell? ⟨o,i,none⟩=some (.slice (some ⟨bi,0,none⟩) L ci):=by rw [hM1.cIz hbi hrow,hL row (Zo hrow)]
 have hne:((W.alloc (.cells #[.pointer (some ⟨g,0,none⟩), .slice (some ⟨o,0,none⟩) n co] 146)).alloc (.cells #[] 3)).heap[W.heap.size+1]?=some (.cells #[] 3 (0,0)):=bBz _ _ _ (by simp);have HO0:=Za (show ((W.alloc (.cells #[.pointer (some ⟨g,0,none⟩), .slice (some ⟨o,0,none⟩) n co] 146)).alloc (.cells #[] 3)).ownsRow (W.heap.size+1) 3 1 (.slice (some ⟨W.heap.size+1,0,none⟩) 0 0) 0 [] from ⟨rfl, .inr ⟨_,0,_,rfl,Zv _,hne,Zv _,by unfold maxLen;omega,rfl,rfl⟩⟩);have hrc:=reads_C (Mx.C_row hM1 hbi hrow 0 (by rw [HRL.out];omega));rw [List.drop_zero,HRL.out] at hrc;have HRC:=Za hrc;have HBX:=Za (aEz hbx (.cells #[] 3));have HM1:=Za hM1;have HF1:=Za (HF.out.alloc (.cells #[] 3));have HB1:=Za (HB.out.alloc (.cells #[] 3));have HSZ1:=Za (show ((W.alloc (.cells #[.pointer (some ⟨g,0,none⟩), .slice (some ⟨o,0,none⟩) n co] 146)).alloc (.cells #[] 3)).heap.size=W.heap.size+1+1 by simp);clear hw hF hx hS hM hSb hL hn hrow hbx hbi hM1 hne hrc HM HF HB
 go_enter Tryz.func158,Tryz.ntmps158
 go_wp2_with ((with_reducible refine anz (b:= .append) (xs:= #[.tmp 9, .tmp 14]) rfl ?_);go_must (at_builtin;refine c0z (w0:=(W.alloc (.cells #[.pointer (some ⟨g,0,none⟩), .slice (some ⟨o,0,none⟩) n co] 146)).alloc (.cells #[] 3)) (W.heap.size+1) rfl (.tmp 9) (.tmp 14) 57 3 .i64 8 rfl Tryz.underlying57 kr_ (by decide) _ [] row (some ⟨bi,0,none⟩) L ci rfl rfl HO0.out HRC.out (Zw _ _) ?aS ?aL ?_;(case aS=>have:=HSZ1.out;omega);(case aL=>simp;omega));intro v2 w2 ho2 hb2 hg2 hat2;rw [List.nil_append] at ho2;obtain ⟨ru,rc,rfl⟩:=Kd.aRz (diz ho2);rw [HRL.out];have HO2:=Za (diz ho2);have HB2:=Za hb2;have HG2:=Za (show ((W.alloc (.cells #[.pointer (some ⟨g,0,none⟩), .slice (some ⟨o,0,none⟩) n co] 146)).alloc (.cells #[] 3)).grownBy w2 (some (W.heap.size+1)) from hg2);clear ho2 hb2 hg2 hat2)
 rw [HRL.out] at HO2;obtain ⟨w1,hw1⟩: ∃w1,(W.alloc (.cells #[.pointer (some ⟨g,0,none⟩), .slice (some ⟨o,0,none⟩) n co] 146)).alloc (.cells #[] 3)=w1:=⟨_,rfl⟩;rw [hw1] at HBX HM1 HF1 HB1 HSZ1 HB2 HG2 hb1 hco1;obtain ⟨fb,hfb⟩: ∃fb,fb=W.heap.size:=⟨_,rfl⟩;have HFB:=Za hfb;have hkeep: ∀q,q<W.heap.size+1->w2.heap[q]?=w1.heap[q]?:=fun q hq=>HG2.out.block q (by have:=HSZ1.out;omega) (fun e=>by cases e;omega)
 have HBX2:=Za ((hkeep W.heap.size (by omega)).trans HBX.out);have hlo:=HM1.out.lt_o;have HM2:=Za (show Mx w2 o bs rows from HM1.out.move (hkeep o (by have:=HOL.out;omega)) (fun q b c hq=>hkeep b (by have:=HS.out b (HX.out b (HSB.out q b c hq));omega)));have HF2:=Za (show Fd w2 g wb (fpoly wb) S from (Fd.grow HF1.out (fun q e=>by cases e;exact .inr (by omega)) HG2.out).thin (fun q _ hs=> .inl (.inl hs)));have HB3:=Za (show BS W w2 g S0 from ⟨HG2.out.os.trans HB1.out.os,HG2.out.tape.trans HB1.out.tape,HG2.out.output.trans HB1.out.output,Zt HB1.out.size HG2.out.size,fun q hq hg hs=>(hkeep q (by omega)).trans (HB1.out.block q hq hg hs)⟩);rw [<-hfb] at HBX2 HO2|-
 generalize (W.heap.size+1+1)=junk at *
 clear hkeep hlo hfb hb1 hco1 hw1 HM1 HF1 HB1 HB2 HG2 HBX HO0 HRC
 go_loopw [18] (fun jv wr=> ∃(j:Nat) (rows':List (List Int)),j<=L/\jv= .int .i64 (j:Int)/\Aside0 (cutF wb i (row.drop j) j rows'=R0)/\Aside0 (rows'.length=n/\ ∀r,r∈rows'->r.length=L)/\Aside0 (Mx wr o bs rows')/\Aside0 (Fd wr g wb (fpoly wb) S)/\Aside0 (BS W wr g S0)/\Aside0 (wr.heap[fb]?=some (.cells #[.pointer (some ⟨g,0,none⟩), .slice (some ⟨o,0,none⟩) n co] 146 (0,0)))/\Aside0 ((Kd.int .i64).R 3 wr (fb+1) (fun _=>True) (.slice ru L rc) row)) (fun jv _=>L - (intOf jv).toNat)
 case atStart=>exact ⟨0,rows,Nat.zero_le _,rfl,HR0,⟨HN.out,HL.out⟩,HM2,HF2,HB3,HBX2,HO2⟩
 clear HR0 HM2 HF2 HB3 HBX2 HO2;obtain ⟨wq,rfl⟩: ∃wq,wq=wr:=⟨_,rfl⟩;obtain ⟨j,rows',hj,rfl,HR,HLR,HM,HF,HB,HBX,HO⟩:=hrel;by_cases hlt:j<L
 ·obtain ⟨c,hc⟩: ∃c,row[j]?=some c:=⟨_,Zf (by have:=HRL.out;omega)⟩;obtain ⟨rad,rfl,hcj⟩:=cHz (Kd.aNz HO.out).2.2 j c hc;have hb1:wq.cell? ⟨fb,1,none⟩=some (.slice (some ⟨o,0,none⟩) n co):=(aaz HBX.out 1).trans rfl
  have HR2:=Za (show cutF wb i (row.drop (j+1)) (j+1) (cutCol wb c i j rows')=R0 by
   obtain ⟨h1,h2⟩:=Zk hc;have h:=HR.out;rw [List.drop_eq_getElem_cons h1,h2,cutF] at h
   exact h)
  have j1:(0:Int)<=(j:Int):=by omega
  have j2:(j:Int)<(L:Int):=by omega
  have HM0:=Za (show Mx wq o bs (if j=i then rows' else cutTo wb c i j rows' 0) by rw [cutTo_zero,ite_self];exact HM.out);clear hc;go_wp2
  go_loopw [26] (fun kv w2=> ∃k:Nat,k<=n/\kv= .int .i64 (k:Int)/\Aside0 (Mx w2 o bs (if j=i then rows' else cutTo wb c i j rows' k))/\Aside0 (Fd w2 g wb (fpoly wb) S)/\Aside0 (BS W w2 g S0)/\Aside0 (w2.heap[fb]?=some (.cells #[.pointer (some ⟨g,0,none⟩), .slice (some ⟨o,0,none⟩) n co] 146 (0,0)))/\Aside0 ((Kd.int .i64).R 3 w2 (fb+1) (fun _=>True) (.slice (some rad) L rc) row)) (fun kv _=>n - (intOf kv).toNat)
  case atStart=>exact ⟨0,Nat.zero_le _,rfl,HM0,HF,HB,HBX,HO⟩
  clear HM0 HF HB HBX HO hb1 hcj HM;obtain ⟨w2,rfl⟩: ∃w2,w2=wr:=⟨_,rfl⟩;obtain ⟨k,hk,rfl,HM,HF,HB,HBX,HO⟩:=hrel;by_cases hlt2:k<n
  ·obtain ⟨x,hx⟩: ∃x,rows'[k]?=some x:=⟨_,Zf (by have:=HLR.out.1;omega)⟩
   have hat:(if j=i then rows' else cutTo wb c i j rows' k)[k]?=some x:=by
    split
    ·exact hx
    ·exact cutTo_at wb c i j rows' k x hx
   obtain ⟨⟨bi,ci⟩,hbi⟩: ∃q,bs[k]?=some q:=⟨_,Zf (by have h1:=HM.out.len;have h2:=(Zk hat).1;omega)⟩;have hxl:=HLR.out.2 x (Zo hx);have hok:w2.cell? ⟨o,k,none⟩=some (.slice (some ⟨bi,0,none⟩) L ci):=by rw [HM.out.cIz hbi hat,hxl]
   have k1:(0:Int)<=(k:Int):=by omega
   have k2:(k:Int)<(n:Int):=by omega
   by_cases hji:j=i
   ·have hjn:((j:Int) !=(i:Int))=false:=by simp [hji]
    have HM2:=Za (show Mx w2 o bs (if j=i then rows' else cutTo wb c i j rows' (k+1)) by have h:=HM.out;rw [Ya hji] at h|-;exact h);clear hx hat hbi hxl;go_wp2;go_roundw
    case rel=>exact ⟨k+1,by omega,by go_num,HM2,HF,HB,HBX,HO⟩
    case measure=>simp [intOf];omega
   ·have hjn:((j:Int) !=(i:Int))=true:=by simp;omega
    obtain ⟨y,hy⟩: ∃y,x[j]?=some y:=⟨_,Zf (by omega)⟩;obtain ⟨z,hz⟩: ∃z,x[i]?=some z:=⟨_,Zf (by omega)⟩;have hcy:w2.cell? ⟨bi,j,none⟩=some (.int .i64 y):=HM.out.c4z hbi hat hy;have hcz:w2.cell? ⟨bi,i,none⟩=some (.int .i64 z):=HM.out.c4z hbi hat hz;have hfi:=HM.out.froz_i hbi j;have hb0:w2.cell? ⟨fb,0,none⟩=some (.pointer (some ⟨g,0,none⟩)):=(aaz HBX.out 0).trans rfl;obtain ⟨gcs,hgcs⟩:=Fd.cells HF.out;have hng:=HM.out.ne_g hgcs;have HNG:=Za hng;have HBI:=Za hbi;have HAT:=Za hat;have hbS:=HX.out _ (HSB.out _ _ _ hbi);have hblt:=HS.out _ hbS;have HBS:=Za hbS;have HFBI:=Za (show bi<fb by have:=HFB.out;omega)
    have HST:=Za (show (if j=i then rows' else cutTo wb c i j rows' k).set k (x.set j (Go.bits .xor .i64 y (gmul wb z c)))=(if j=i then rows' else cutTo wb c i j rows' (k+1)) by
     rw [Yb hji,Yb hji, <-cutTo_step wb c i j rows' k x hx];unfold cutRow
     rw [Zm,Zm,hy,hz];rfl)
    have HMU:=Za (cOz.calls g S wb z c w2.drew HW.out HF.out.drew (fun q hq=>Zp (HS.out q hq) HB.out.size));have hfg:fb≠g:=by have:=HFB.out;have:=HGL.out;omega
    have HFG:=Za hfg;have HCI:=Za (show∀w3,BB w2.drew w3 g->(w3.cell? ⟨fb,0,none⟩=some (.pointer (some ⟨g,0,none⟩))/\w3.cell? ⟨bi,j,none⟩=some (.int .i64 y)/\w3.cell? ⟨bi,i,none⟩=some (.int .i64 z))/\w3.frozen? ⟨bi,j,none⟩=false from fun w3 h=>⟨⟨cFz h (a:=w2.drew) hb0 hfg,cFz h (a:=w2.drew) hcy (hng.2 _ _ _ hbi),cFz h (a:=w2.drew) hcz (hng.2 _ _ _ hbi)⟩,froz_bb h (a:=w2.drew) (p:=⟨bi,j,none⟩) (HM.out.lt_i hbi) hfi (hng.2 _ _ _ hbi)⟩);have HR3:=Za (show∀w3,BB w2 w3 g->(Kd.int .i64).R 3 w3 (fb+1) (fun _=>True) (.slice (some rad) L rc) row from fun w3 hb3=>Kd.aJz (Kd.dpz (Kd.c5z HO.out hgcs (by decide)) (fun q hq hlt=>hb3.block q hlt hq.2)) (fun _ _=>trivial));have i3:(i:Int)<(L:Int):=by omega
    clear hx hat hbi hxl hy hz hfi hgcs hng hbS hblt hfg
    go_wp2_with fail
    refine clz (n:=15) (S:=fun w'=>w'.cell? ⟨fb,0,none⟩=some (.pointer (some ⟨g,0,none⟩))/\w'.cell? ⟨bi,j,none⟩=some (.int .i64 y)/\w'.cell? ⟨bi,i,none⟩=some (.int .i64 z)) (ds:= [14]) (bA 15 0) kr_ rfl rfl ⟨hb0,hcy,hcz⟩ (fun hHeld=> ?_);refine pu_ 0 33 1 ?_;refine pu_ 1 34 3 ?_;refine pu_ 2 35 7 ?_;refine pu_ 4 37 23 ?_;refine pu_ 6 39 87 ?_;refine pu_ 7 40 215 ?_;refine pu_ 8 41 471 ?_;refine pu_ 10 43 1495 ?_;refine tk_ 3 36 1503 hHeld ?_;refine tk_ 5 38 1535 hHeld ?_;refine tk_ 9 42 2047 hHeld ?_;refine one_ (i:=11) (N:=some 44) (bA 15 4095) rfl rfl kr_ (by decide) (fun K hK=> ?_);refine goes_ Tryz.func103 kr_ rfl #[.pointer (some ⟨g,0,none⟩), .int .i64 z, .int .i64 c] (by rfl) rfl rfl am_ ?_
    with_reducible refine (HMU.out).mono ?_
    rintro e w3 ⟨rfl,q1,q2⟩;refine ⟨_,rfl,?_⟩;obtain ⟨⟨r1,r2,r3⟩,r4⟩:=HCI.out w3 q2;have Q1:=Za q1;have Q3:=Za (show BB w2 w3 g from ⟨q2.os,q2.tape,q2.output,q2.size,q2.block⟩);clear q1 q2;refine hK.out _ _ ⟨r1,r2,r3⟩ (fun hHeld=> ?_);clear hK K;refine norm_ (a':= ?_) ?_ ?_;rotate_left
    ·show Act.put _ (some 44) _=_;simp only [Act.put,Zg,Zh,Zi,i64_w,i32_w];rfl
    refine pu_ 12 45 8191 ?_;refine pu_ 13 46 16383 ?_;refine last_ (i:=14) (N:=none) (bA 15 32767) rfl rfl kr_ (by decide) (fun K hK=> ?_);refine skip_ (w1:= ?_) (by rfl) rfl ?_ ?_;rotate_left
    ·go_simp;rfl
    refine hK.out _ _ ?_;clear hK K;refine done_ kr_ ?_;have HM2:=Za ((HM.out.bb HNG.out Q3.out).set (j:=j) HBI.out HAT.out (Go.bits .xor .i64 y (gmul wb z c)));rw [HST.out] at HM2;have HF2:=Za (Q1.out.set (q:=⟨bi,j,none⟩) HBS.out (.int .i64 (Go.bits .xor .i64 y (gmul wb z c))));have HB2:=Za ((HB.out.trans (BS.of_bb Q3.out)).set (p:=⟨bi,j,none⟩) (.inl (HSB.out _ _ _ HBI.out)) (.int .i64 (Go.bits .xor .i64 y (gmul wb z c))));have HBX2:=Za (bHz ((Q3.out.block fb (aPz HBX.out) HFG.out).trans HBX.out) (show fb≠(⟨bi,j,none⟩:Addr).block from fun e=>by have:=HFBI.out;simp only at e;omega) (.int .i64 (Go.bits .xor .i64 y (gmul wb z c))));have HO3:=Za (Kd.aJz (Kd.cyz (w1:=w3.setCell ⟨bi,j,none⟩ (.int .i64 (Go.bits .xor .i64 y (gmul wb z c)))) (Kd.bTz (HR3.out w3 Q3.out)) (fun q hq=>Below.heap_setCell w3 ⟨bi,j,none⟩ _ q (fun e=>by have h1:=hq.2.1;have h2:=HFBI.out;simp only at e;omega))) (ok':=fun _=>True) (fun _ _=>trivial))
    go_wp2;go_roundw
    case rel=>exact ⟨k+1,by omega,by go_num,HM2,HF2,HB2,HBX2,HO3⟩
    case measure=>simp [intOf];omega
  ·obtain rfl:k=n:=by omega
   have HME:=Za (show Mx w2 o bs (cutCol wb c i j rows') by
    have h:=HM.out;unfold cutCol;by_cases hji:j=i
    ·rw [Ya hji] at h|-;exact h
    ·rw [Yb hji] at h|-;rw [<-HLR.out.1,cutTo_full] at h;exact h)
   have HLE:=Za (show (cutCol wb c i j rows').length=k/\ ∀r,r∈cutCol wb c i j rows'->r.length=L from ⟨(ePz HLR.out.2).2.trans HLR.out.1,(ePz HLR.out.2).1⟩);go_wp2;go_roundw
   case rel=>exact ⟨j+1,_,by omega,by go_num,HR2,HLE,HME,HF,HB,HBX,HO⟩
   case measure=>simp [intOf];omega
 ·obtain rfl:j=L:=by omega
  have HE:=Za (show Mx wq o bs R0 by
   have h:=HR.out;rw [List.drop_of_length_le (by rw [HRL.out];exact Zv _),cutF] at h
   rw [<-h];exact HM.out)
  go_wp2
  go_end0
  exact ⟨rfl,HE.out,HF.out,HB.out⟩
theorem S_join2 {wq w2 : World} {g B e t gt : Nat} {gcs : Array Value} {Own : Nat -> Prop} {u uv : Value} {xs : List (List Int)} {R : List Int} (HO : Kd.S (dM e .i64) t wq B Own u xs) (hlt : ∀ q, Own q -> q < wq.heap.size) (hg : wq.heap[g]? = some (.cells gcs gt (0, 0))) (ht : ∀ q, q ∈ t :: (dM e .i64).E -> q ≠ gt) (hb : BB wq w2 g) (hR : (Kd.int .i64).R e w2 wq.heap.size (fun _ => True) uv R) (hB : B <= wq.heap.size) :
  Kd.S (dM e .i64) t w2 B (fun k'=>(Own k'\/some k'=uv.ownBlock\/w2.heap.size<=k')/\ ¬some k'=uv.ownBlock) u xs/\(dM e .i64).M w2 B (fun k'=>some k'=uv.ownBlock) R [uv] /\(∀k',some k'=uv.ownBlock->(Own k'\/some k'=uv.ownBlock\/w2.heap.size<=k')/\some k'≠u.ownBlock):=by
 have hub: ∀q,some q=uv.ownBlock->wq.heap.size<=q:=fun q e=>Kd.bIz hR q e.symm
 refine ⟨Kd.cGz (Kd.ebz (Kd.bFz (Kd.eoz HO hg ht)) (fun q hq=>hb.block q hq.2.2.1 hq.1.2)) (fun q hq=>⟨.inl hq.1.1,fun e=>by have:=hub q e;have:=hq.2.2.1;omega⟩),⟨_,rfl,Kd.bDz (Kd.ciz rfl hR) hB⟩,fun q e=>⟨.inr (.inl e),fun e2=> ?_⟩⟩;have h1:=hub q e;have h2:=Kd.R_lt (Kd.S_R HO) q e2.symm;omega
theorem Fd.joined {w2 w4 : World} {g : Nat} {wb p : Int} {S Own : Nat -> Prop} {u uv : Value} (h : Fd w2 g wb p (fun q => (S q \/ Own q) \/ some q = uv.ownBlock)) (hu : ∀ q, u.ownBlock = some q -> Own q) (hg : w2.grownBy w4 u.ownBlock) :
  Fd w4 g wb p (fun q=>S q\/((Own q\/some q=uv.ownBlock\/w2.heap.size<=q)/\q<w4.heap.size)):=by
 refine (Fd.grow h (fun q e=> .inl (.inr (hu q e))) hg).thin (fun q hq hs=> ?_);rcases hs with hs|⟨hs|hs|hs, -⟩
 ·exact .inl (.inl (.inl hs))
 ·exact .inl (.inl (.inr hs))
 ·exact .inl (.inr hs)
 ·exact .inr hs
def lastU (k:Nat):List Int:=(List.replicate k 0).set (k - 1) 1
def extM (wb:Int) (k m:Nat):List (List Int):=madeF (fun (i j:Nat)=>gpow wb (i:Int) (j:Int)) (k+m - 1) k++ [lastU k]
theorem Extended.calls (g : Nat) (wb : Int) (S : Nat -> Prop) (k0 m0 : Nat) (W : World) (hw : wb = 8 \/ wb = 16) (hF : Fd W g wb (fpoly wb) S) (hS : ∀ k, S k -> k < W.heap.size) (h1 : 1 <= k0) (h2 : 1 <= m0) (h3 : k0 <= 8) (h4 : m0 <= 4) :
  Calls Tryz.prog 112 #[.pointer (some ⟨g,0,none⟩), .int .i64 (k0:Int), .int .i64 (m0:Int)] W fun e w'=> ∃v, ∃Own:Nat->Prop,e= .returned (.tuple #[v, .int .i64 0])/\Kd.S (dM 3 .i64) 57 w' W.heap.size Own v (extM wb k0 m0)/\Fd w' g wb (fpoly wb) (fun q=>S q\/Own q)/\(∀q,Own q->q<w'.heap.size)/\BB W w' g:=by
 have HW:=Za hw;have HS:=Za hS;have HF:=Za (show Fd W g wb (fpoly wb) (fun q=>S q\/(fun _=>False) q) from hF.thin (fun q _ hs=>hs.elim id (fun e=>e.elim)));have e1: ¬(k0:Int)<1:=by omega
 have e2: ¬(m0:Int)<1:=by omega
 have e3: ¬(20:Int)<=(k0:Int):=by omega
 have e4: ¬(20:Int)<=(m0:Int):=by omega
 have e5:wrap64 ((k0:Int)+(m0:Int))=(k0:Int)+(m0:Int):=by unfold wrap64;omega
 have e6: ¬(20:Int)<(k0:Int)+(m0:Int):=by omega
 obtain ⟨rows,hrows⟩: ∃rows,k0+m0 - 1=rows:=⟨_,rfl⟩;have e7:wrap64 ((k0:Int)+(m0:Int) - 1)=(rows:Int):=by unfold wrap64;omega
 have e9:(k0:Int)+(m0:Int) - 1=(rows:Int):=by omega
 have hr:rows<=100:=by omega
 obtain ⟨tf,htf⟩: ∃tf:Nat->Nat->Int,(fun (i j:Nat)=>gpow wb (i:Int) (j:Int))=tf:=⟨_,rfl⟩;have HX:=Za (show extM wb k0 m0=madeF tf rows k0++ [lastU k0] by unfold extM;rw [htf,hrows]);generalize extM wb k0 m0=res at HX|-
 have HT:=Za (show∀(i j:Nat) (S':Nat->Prop) (w:World),Fd w g wb (fpoly wb) S'->(∀k,S' k->k<w.heap.size)->j<=100->Calls Tryz.prog 122 #[.pointer (some ⟨g,0,none⟩), .int .i64 (i:Int), .int .i64 (j:Int)] w fun e w'=>e= .returned (.int .i64 (tf i j))/\Fd w' g wb (fpoly wb) S'/\BB w w' g by
  intro i j S' w h1 h2 h3;subst htf
  exact gf_Pow.calls g S' wb (i:Int) j w (by omega) hw h1 h2)
 clear hw hF hS htf hrows;go_enter Tryz.func112,Tryz.ntmps112;go_wp2;have E1:=Za h1;have E3:=Za h3;clear e1 e2 e3 e4 e5 e6 e7 e9 h2 h4
 go_loopw [8,41] (fun v i wr=> ∃(k:Nat) (Own:Nat->Prop),k<=rows/\i= .int .i64 (k:Int)/\Aside0 (Kd.S (dM 3 .i64) 57 wr W.heap.size Own v (madeF tf k k0))/\Aside0 (Fd wr g wb (fpoly wb) (fun q=>S q\/Own q))/\Aside0 (∀q,Own q->q<wr.heap.size)/\Aside0 (BB W wr g)) (fun _ i _=>rows - (intOf i).toNat)
 case atStart=>exact ⟨0,fun _=>False,Nat.zero_le _,rfl,⟨Kd.S_nil _ _ _ _ _⟩,HF,⟨fun _ h=>h.elim⟩,⟨BB.refl _ _⟩⟩
 clear HF;obtain ⟨wq,rfl⟩: ∃wq,wq=wr:=⟨_,rfl⟩;obtain ⟨k,Own,hk,rfl,HO,HF,HOW,HBB⟩:=hrel;by_cases hlt:k<rows
 ·have HF2:=Za (show Fd wq g wb (fpoly wb) (fun q=>(S q\/Own q)\/some q=(Value.slice none 0 0).ownBlock) from HF.out.thin (fun q _ hs=>hs.elim id (fun e=>by simp [Value.ownBlock] at e)));go_wp2
  go_loopw [10,45] (fun u j w2=> ∃n:Nat,n<=k0/\j= .int .i64 (n:Int)/\Aside0 ((Kd.int .i64).R 3 w2 wq.heap.size (fun _=>True) u ((List.range n).map (tf k)))/\Aside0 (Fd w2 g wb (fpoly wb) (fun q=>(S q\/Own q)\/some q=u.ownBlock))/\Aside0 (BB wq w2 g)) (fun _ j _=>k0 - (intOf j).toNat)
  case atStart=>exact ⟨0,Nat.zero_le _,rfl,⟨Kd.R_nil _ _ _ _ _⟩,HF2,⟨BB.refl _ _⟩⟩
  clear HF2;obtain ⟨w2,rfl⟩: ∃w2,w2=wr:=⟨_,rfl⟩;obtain ⟨n,hn,rfl,HR,HF2,HB2⟩:=hrel;by_cases hlt2:n<k0
  ·have hSS : ∀ q, ((S q \/ Own q) \/ some q = u10.ownBlock) -> q < w2.heap.size := by
    have s1:=HB2.out.size;have s2:=HBB.out.size;rintro q ((h|h)|h)
    ·have:=HS.out q h;omega
    ·have:=HOW.out q h;omega
    ·exact Kd.R_lt HR.out q h.symm
   have HTC:=Za (HT.out k n _ w2 HF2.out hSS (by have:=E3.out;omega));have HSZ:=Za (show wq.heap.size<=w2.heap.size from HB2.out.size);obtain ⟨gcs,hgcs⟩:=Fd.cells HF2.out;have HR3:=Za (show∀w3,BB w2 w3 g->(Kd.int .i64).R 3 w3 wq.heap.size (fun _=>True) u10 ((List.range n).map (tf k)) from fun w3 hb3=>Kd.aJz (Kd.dpz (Kd.c5z HR.out hgcs (by decide)) (fun q hq hlt=>hb3.block q hlt hq.2)) (fun _ _=>trivial));have HLL:=Za (show ((List.range n).map (tf k)).length<=100 by have:=E3.out;simp;omega);have HRS:=Za (d5z (tf k) n);generalize (List.range n).map (tf k)=pre at HR HR3 HLL HRS;generalize tf k n=z at HTC HRS;clear hSS hgcs
   go_wp2_with fail
   refine HTC.out.mono ?_;rintro e w3 ⟨rfl,q1,q2⟩;have HR4:=Za (HR3.out w3 q2);have HF3:=Za q1;have HB3:=Za (HB2.out.trans q2);have HZ3:=Za (Zt HSZ.out q2.size);clear q1 q2 HTC HR3
   go_wp2_with ((with_reducible refine anz (b:= .append) (xs:= #[.tmp 48, .tmp 53]) rfl ?_);go_must (at_builtin;refine Kd.bxz (Kd.int .i64) (w0:=w3) wq.heap.size rfl (.tmp 48) (.tmp 53) 57 3 (.int .i64 0) 8 rfl Tryz.underlying57 kr_ rfl (by decide) (by decide) _ _ z [.int .i64 z] (fun _=>True) (fun _=>False) rfl rfl rfl (fun _ h=>h.elim) (fun _ _=>trivial) HR4.out (Zw _ _) HZ3.out ?aL ?_;(case aL=>have:=HLL.out;omega));intro v2 w4 ho2 hb2 hg2 hat2;have HO2:=Za ho2;have HB4:=Za hb2;have HG2:=Za (show w3.grownBy w4 u10.ownBlock from hg2);have HA2:=Za (show v2.ownBlock=u10.ownBlock\/ ∃b,v2.ownBlock=some b/\w3.heap.size<=b from hat2);clear ho2 hb2 hg2 hat2)
   go_roundw
   case rel=>exact ⟨n+1,by omega,by go_num,⟨by rw [HRS.out];exact HO2.out⟩,⟨Fd.appended HF3.out HG2.out HA2.out⟩,⟨HB3.out.os▸HB4.out.os,HB3.out.tape▸HB4.out.tape,HB3.out.output▸HB4.out.output,Zt HB3.out.size HB4.out.size,fun i hi hg=>(HB4.out.block i hi).trans (HB3.out.block i hi hg)⟩⟩
   case measure=>simp [intOf];omega
  ·obtain rfl:n=k0:=by omega
   obtain ⟨gcs,hgcs⟩:=Fd.cells HF.out;have hj:=S_join2 HO.out HOW.out hgcs (by decide) HB2.out HR.out HBB.out.size;have HLZ:=Za (show (madeF tf k n).length<=1000 by simp [madeF];omega);obtain ⟨va,vc,rfl⟩:=Kd.aRz HR.out;have HMS:=Za (e1z tf k n)
   generalize ((List.range n).map (tf k)).length=nn at *
   generalize (List.range n).map (tf k)=R at hj HMS;have HS1:=Za hj.1;have HM1:=Za hj.2.1;have HOK:=Za hj.2.2;have HSW:=Za (show W.heap.size<=w2.heap.size from Zt HBB.out.size HB2.out.size);have HF5:=Za HF2.out;have HUO:=Za HO.out.choose_spec.1;clear hj hgcs HF2 HR
   go_wp2_with ((with_reducible refine anz (b:= .append) (xs:= #[.tmp 56, .tmp 58]) rfl ?_);go_must (at_builtin;refine Kd.bLz (dM 3 .i64) (w0:=w2) W.heap.size rfl (.tmp 56) (.tmp 58) 69 57 (.slice none 0 0) 24 rfl Tryz.underlying69 kr_ rfl (by decide) (by decide) _ _ R [.slice va nn vc] _ _ rfl rfl HM1.out HOK.out (fun _ h=> .inr (.inr h)) HS1.out (Zw _ _) HSW.out ?aL ?_;(case aL=>have:=HLZ.out;omega));intro v2 w4 ho2 hb2 hg2 hat2;have HO2:=Za ho2;have HB4:=Za hb2;have HG2:=Za (show w2.grownBy w4 u8.ownBlock from hg2);have HA2:=Za (show v2.ownBlock=u8.ownBlock\/ ∃b,v2.ownBlock=some b/\w2.heap.size<=b from hat2);clear ho2 hb2 hg2 hat2)
   go_roundw
   case rel=>exact ⟨k+1,_,by omega,by go_num,⟨by rw [HMS.out];exact Kd.cGz (Kd.bFz HO2.out) (fun q hq=>⟨hq.1,hq.2.2.1⟩)⟩,⟨Fd.joined HF5.out HUO.out HG2.out⟩,⟨fun q hq=>hq.2⟩,⟨⟨HB4.out.os.trans (HB2.out.os.trans HBB.out.os),HB4.out.tape.trans (HB2.out.tape.trans HBB.out.tape),HB4.out.output.trans (HB2.out.output.trans HBB.out.output),Zt HSW.out HB4.out.size,fun i hi hg=>(HB4.out.block i hi).trans ((HB2.out.block i (Zp hi HBB.out.size) hg).trans (HBB.out.block i hi hg))⟩⟩⟩
   case measure=>simp [intOf];omega
 ·obtain rfl:k=rows:=by omega
  have HZ:=Za HO.out;have hmk:=eHz k0 (by omega);have e8:wrap64 ((k0:Int) - 1)=((k0 - 1:Nat):Int):=by unfold wrap64;omega
  have i1:(0:Int)<=((k0 - 1:Nat):Int):=by omega
  have i2:((k0 - 1:Nat):Int)<(k0:Int):=by omega
  have hnb:(wq.alloc (.cells (nums .i64 (List.replicate k0 0)).toArray 3)).heap[wq.heap.size]?=some (.cells (nums .i64 (List.replicate k0 0)).toArray 3 (0,0)):=heap_alloc_new _ _;have hcb:(wq.alloc (.cells (nums .i64 (List.replicate k0 0)).toArray 3)).cell? ⟨wq.heap.size,k0 - 1,none⟩=some (.int .i64 0):=(aaz hnb _).trans (d4z .i64 _ _ 0 (by rw [List.getElem?_replicate];simp;omega));have hfb:=a6z hnb (k0 - 1);obtain ⟨w5,hw5⟩: ∃w5,wq.alloc (.cells ((nums .i64 (List.replicate k0 0)).set (k0 - 1) (.int .i64 1)).toArray 3)=w5:=⟨_,rfl⟩
  have hn0:w5.heap[wq.heap.size]?=some (.cells (nums .i64 (lastU k0)).toArray 3 (0,0)):=by
   rw [<-hw5,heap_alloc_new];simp [lastU,nums,List.map_set]
  have hB5:Below wq.heap.size wq w5:=by rw [<-hw5];exact alz (Zw _ _) _
  have hlen:(lastU k0).length=k0:=by simp [lastU]
  have hR5:(Kd.int .i64).R 3 w5 wq.heap.size (fun _=>True) (.slice (some ⟨wq.heap.size,0,none⟩) k0 k0) (lastU k0):=
   diz ⟨by rw [nums_length,Nat.mul_one], .inr ⟨_,k0,_,by rw [hlen],Zv _,hn0,by rw [hlen];exact Zv _,by unfold maxLen;omega,by simp [nums_length,hlen],by rw [hlen];simp;rw [List.take_of_length_le (by rw [nums_length,hlen];exact Zv _)]⟩⟩
  obtain ⟨gcs,hgcs⟩:=Fd.cells HF.out;have hj:=S_join2 HO.out HOW.out hgcs (by decide) (BB.of_below hB5 g) hR5 HBB.out.size;have HLZ:=Za (show (madeF tf k k0).length<=1000 by simp [madeF];omega);have HS1:=Za hj.1;have HM1:=Za hj.2.1;have HOK:=Za hj.2.2;have HSW:=Za (show W.heap.size<=w5.heap.size from Zt HBB.out.size hB5.size);have HB5:=Za hB5;have HF5:=Za (show Fd w5 g wb (fpoly wb) (fun q=>(S q\/Own q)\/some q=(Value.slice (some ⟨wq.heap.size,0,none⟩) k0 k0).ownBlock) from ((HF.out.more).below hB5).thin (fun q _ hs=>hs.elim .inl (fun e=> .inr (by simp [Value.ownBlock] at e;omega))));have HUO:=Za HO.out.choose_spec.1;clear hnb hj hgcs hR5 hn0 hlen hB5 HZ
  go_wp2_with ((with_reducible refine anz (b:= .append) (xs:= #[.tmp 67, .tmp 69]) rfl ?_);go_must (at_builtin;refine Kd.bLz (dM 3 .i64) (w0:=w5) W.heap.size rfl (.tmp 67) (.tmp 69) 69 57 (.slice none 0 0) 24 rfl Tryz.underlying69 kr_ rfl (by decide) (by decide) _ _ (lastU k0) [.slice (some ⟨wq.heap.size,0,none⟩) k0 k0] _ _ rfl rfl HM1.out HOK.out (fun _ h=> .inr (.inr h)) HS1.out (Zw _ _) HSW.out ?aL ?_;(case aL=>have:=HLZ.out;omega));intro v2 w4 ho2 hb2 hg2 hat2;have HO2:=Za ho2;have HB4:=Za hb2;have HG2:=Za (show w5.grownBy w4 u8.ownBlock from hg2);have HA2:=Za (show v2.ownBlock=u8.ownBlock\/ ∃b,v2.ownBlock=some b/\w5.heap.size<=b from hat2);clear ho2 hb2 hg2 hat2)
  go_ret2;refine ⟨_,_,rfl,by rw [HX.out];exact Kd.cGz (Kd.bFz HO2.out) (fun q hq=>⟨hq.1,hq.2.2.1⟩),Fd.joined HF5.out HUO.out HG2.out,fun q hq=>hq.2,⟨HB4.out.os.trans (HB5.out.os.trans HBB.out.os),HB4.out.tape.trans (HB5.out.tape.trans HBB.out.tape),HB4.out.output.trans (HB5.out.output.trans HBB.out.output),Zt HSW.out HB4.out.size,fun i hi hg=>(HB4.out.block i hi).trans ((HB5.out.block i (Zp hi HBB.out.size)).trans (HBB.out.block i hi hg))⟩⟩
end Go.Proofs.Xc
end
