-- Joined texts of this work (wip/tools/bundle.py).
import Derived.Test.YtpdakdcmahlghaaGreatBReconUpdates6
set_option maxHeartbeats 8000000
set_option maxRecDepth 100000
set_option linter.unusedVariables false
set_option linter.unusedSimpArgs false
section
namespace Go.Proofs.Xc
open Go.RowKit Go.Proofs.Pw Go.Proofs.Pl Go.Proofs.Pm
attribute [local go_sem] a7z a8z bjz bkz aZz a0z a9z baz
def agz.clr (k:Nat) (w p:Int) (c at_:Nat) (row:List Int):Nat->Nat->List (List Int)->Option (List (List Int))
 |0,_,out=>some out
 | d + 1, i, out => if c < (out.getD i []).length then (if i = at_ then agz.clr k w p c at_ row d (i + 1) out else (if (out.getD i []).getD c 0 = 0 then agz.clr k w p c at_ row d (i + 1) out else
   (aGz.f k w p row ((out.getD i []).getD c 0)).bind fun s=>(avz.f k (out.getD i []) s).bind fun t=>agz.clr k w p c at_ row d (i+1) (out.set i t))) else none
def agz.go (k:Nat) (w p:Int):Nat->Nat->List (List Int)->Nat->Option (List (List Int)×Int)
 |0,_,out,at_=>some (out,(at_:Int))
 | d + 1, c, out, at_ => if at_ < out.length then (aTz.f k out (at_ : Int) (c : Int)).bind fun q => (if q < 0 then agz.go k w p d (c + 1) out at_ else (if q < (out.length : Int) then (if c < (out.getD q.toNat []).length then
   (aqz.f k w p ((out.getD q.toNat []).getD c 0)).bind fun iv=>(aGz.f k w p (out.getD q.toNat []) iv.1).bind fun row=>
    (agz.clr k w p c at_ row out.length 0 ((out.set q.toNat (out.getD at_ [])).set at_ row)).bind fun out'=>agz.go k w p d (c+1) out' (at_+1) else none) else none)) else some (out,(at_:Int))
def agz.f (k:Nat) (a0 a1:Int) (l2:List (List Int)) (a3:Int):Option (List (List Int)×Int):=
 if 0<l2.length then (if l2.length<=1000000 then (if 0<=a3 then (if a3<=1000000 then agz.go k a0 a1 a3.toNat 0 l2 0 else none) else none) else none) else none
theorem agz.eYz (k:Nat) (w p:Int) (c at_:Nat) (row:List Int): ∀(d i:Nat) (out:List (List Int)),LeO (agz.clr k w p c at_ row d i out) (agz.clr (k+1) w p c at_ row d i out)
 |0,_,_=>LeO.refl _
 |d+1,i,out=>by
  unfold agz.clr;exact LeO.ite (LeO.ite (agz.eYz k w p c at_ row d _ _) (LeO.ite (agz.eYz k w p c at_ row d _ _) (LeO.bind (aGz.mono _ _ _ _ _) (fun _=>LeO.bind (avz.mono _ _ _) (fun _=>agz.eYz k w p c at_ row d _ _))))) (LeO.refl _)
theorem agz.go_mono (k:Nat) (w p:Int): ∀(d c:Nat) (out:List (List Int)) (at_:Nat),LeO (agz.go k w p d c out at_) (agz.go (k+1) w p d c out at_)
 |0,_,_,_=>LeO.refl _
 |d+1,c,out,at_=>by
  unfold agz.go;exact LeO.ite (LeO.bind (aTz.mono _ _ _ _) (fun _=>LeO.ite (agz.go_mono k w p d _ _ _) (LeO.ite (LeO.ite (LeO.bind (aqz.mono _ _ _ _) (fun _=>LeO.bind (aGz.mono _ _ _ _ _) (fun _=>LeO.bind (agz.eYz k w p _ _ _ _ _ _) (fun _=>agz.go_mono k w p d _ _ _)))) (LeO.refl _)) (LeO.refl _)))) (LeO.refl _)
theorem agz.mono: ∀a0 a1 a2 a3 k,LeO (agz.f k a0 a1 a2 a3) (agz.f (k+1) a0 a1 a2 a3):=by
 intro a0 a1 a2 a3 k;unfold agz.f;exact LeO.ite (LeO.ite (LeO.ite (LeO.ite (agz.go_mono k _ _ _ _ _ _) (LeO.refl _)) (LeO.refl _)) (LeO.refl _)) (LeO.refl _)
theorem N_row {e t : Nat} {k : IntKind} {W : World} {base o n cap : Nat} {ok : Nat -> Prop} {rows : List (List Int)} (h : Kd.N (dM e k) t W base ok (.slice (some ⟨o, 0, none⟩) n cap) rows) (i : Nat) (row : List Int) (hr : rows[i]? = some row) :
  ∃A c,W.cell? ⟨o,i,none⟩=some (.slice A row.length c)/\W.frozen? ⟨o,i,none⟩=false/\row.length<=c/\Kd.F (Kd.int k) W (fun q=>ok q/\q≠o) A row.length row:=by
 have hi:=(Zk hr).1;have hn:=(Kd.bnz h).1;obtain ⟨c,hcl,hK,hcc,hfr⟩:=Kd.N_elem h ([] :List Int) (i:Int) (by omega) (by omega);rw [Zu,Zm,hr] at hK;obtain ⟨A,cc,rfl,hl,hF⟩:=Kd.bUz hK;have h0:=hcc 0 _ rfl;have h1:=hfr 0;rw [Zu,show (dM e k).sz=1 from rfl,Nat.mul_one,Nat.add_zero] at h0 h1;exact ⟨A,cc,h0,h1,hl,hF⟩
theorem N_set {e t : Nat} {k : IntKind} {W : World} {base o n cap : Nat} {ok okp : Nat -> Prop} {rows : List (List Int)} (h : Kd.N (dM e k) t W base ok (.slice (some ⟨o, 0, none⟩) n cap) rows) (i : Nat) (row' row : List Int) (hr : rows[i]? = some row') {A : Option Addr} {c : Nat} (hl : row.length <= c) (hF : Kd.F (Kd.int k) W okp A row.length row) (hok : ∀ q, okp q -> ok q /\ q ≠ o) :
  Kd.N (dM e k) t (W.setCell ⟨o,i,none⟩ (.slice A row.length c)) base ok (.slice (some ⟨o,0,none⟩) n cap) (rows.set i row):=by
 have hi:=(Zk hr).1;have hn:=(Kd.bnz h).1;obtain ⟨A',c',hc, -,hl',hF'⟩:=N_row h i row' hr
 have h2:=(Kd.N_seg h (i:Int) (by omega) (by omega) (c:= [.slice A' row'.length c']) (seg:= [.slice A row.length c]) (j:=0) rfl (fun j u hu=>by
  cases j with
  |succ j=>simp at hu
  |zero=>
   obtain rfl:Value.slice A' row'.length c'=u:=by simpa using hu
   rw [Zu,show (dM e k).sz=1 from rfl,Nat.mul_one,Nat.add_zero]
   exact hc) (Zv _) (x':=row) (okp:=okp) (Kd.cWz hl hF) hok).1
 rw [Zu,show (dM e k).sz=1 from rfl,Nat.mul_one,Nat.add_zero] at h2;exact h2
theorem agz.calls (k : Nat) (a0 : Int) (a1 : Int) (P2_ : Nat -> Prop) (A2 : Option Addr) (c2 : Nat) (l2 : List (List Int)) (a3 : Int) (r1 : List (List Int)) (r2 : Int) (w : World) (hs2 : Kd.V (Kd.slice 3 (Kd.int .i64)) 57 w w.heap.size (fun k_ => P2_ k_) (.slice A2 l2.length c2) l2) (h : agz.f k a0 a1 l2 a3 = some (r1, r2)) :
  Calls Tryz.prog 99 #[.int .i64 a0, .int .u32 a1, .slice A2 l2.length c2, .int .i64 a3] w fun e w'=> ∃v0_:Value,e= .returned (.tuple #[v0_, .int .i64 r2])/\Kd.N (Kd.slice 3 (Kd.int .i64)) 57 w' w.heap.size (fun k_=>(P2_ k_\/w.heap.size<=k_)) v0_ r1/\Below w.heap.size w w':=by
 unfold agz.f at h;by_cases h0:0<l2.length
 case neg=>rw [Yb h0] at h;cases h
 rw [Ya h0] at h;by_cases h1:l2.length<=1000000
 case neg=>rw [Yb h1] at h;cases h
 rw [Ya h1] at h;by_cases h2:0<=a3
 case neg=>rw [Yb h2] at h;cases h
 rw [Ya h2] at h;by_cases h3:a3<=1000000
 case neg=>rw [Yb h3] at h;cases h
 rw [Ya h3] at h;obtain ⟨cols,rfl⟩:=Int.eq_ofNat_of_zero_le h2;rw [Zu] at h;obtain ⟨ok,hok⟩: ∃ok:Nat->Prop,ok=(fun k_=>(P2_ k_\/w.heap.size<=k_)):=⟨_,rfl⟩;rw [<-hok];have HOKN:=Za (show∀q,w.heap.size<=q->ok q by rw [hok];exact fun q hq=> .inr hq);have HFA:=Za (show Kd.F (dM 3 .i64) w (fun q=>ok q/\q<w.heap.size) A2 l2.length l2 from Kd.bZz (Kd.dwz (Kd.V_F hs2)) (fun q hq=>⟨by rw [hok];exact .inl hq.1,hq.2⟩));have HH:=Za h;obtain ⟨n,hn⟩: ∃n,l2.length=n:=⟨_,rfl⟩;have HN:=Za hn;rw [hn] at HFA h0 h1|-;clear hs2 h h2 hok hn;go_enter Tryz.func99,Tryz.ntmps99
 go_wp2_with (first|((with_reducible refine blz (N:=18) rfl ?_);go_must (refine Kd.N_lit (dM 3 .i64) _ 57 ?hg (N':=18) ?hd (xs:=([] :List (List Int))) (inner:= []) (ok:=ok) (okp:=ok) ?hr ?hp (fun _ hk=>hk) (HOKN.out _ (Zv _)) (Zw _ _) (Zv _) (by simp) ?_;(case hd=>rfl);(case hg=>rfl);(case hr=>first|(go_simp;done)|(go_simp;rfl));(case hp=>exact (Reps.none _ _)));intro v1 w1 ho hb hg_ hnew_;have HO1:=Za ho;have HB1:=Za hb;clear ho hb hg_ hnew_;have HR1:=Za (show Kd.F (dM 3 .i64) w1 (fun q=>ok q/\some q≠v1.ownBlock) A2 n l2 from Kd.bZz (Kd.cmz HFA.out (fun q hq hlt=>HB1.out.block q hq.2)) (fun q hq=>⟨hq.1,fun e=>by have:=Kd.czz HO1.out q e.symm;have:=hq.2;omega⟩)))|((with_reducible refine anz (b:= .append) (xs:= #[.tmp 18, .tmp 19]) rfl ?_);go_must (at_builtin;refine Kd.eiz (dM 3 .i64) (w0:=w) w.heap.size rfl (.tmp 18) (.tmp 19) 68 57 (.slice none 0 0) 24 rfl Tryz.underlying68 kr_ rfl (by decide) (by decide) v1 [] l2 _ _ _ ok (fun q=>ok q/\some q≠v1.ownBlock) rfl rfl HO1.out HR1.out (fun _ hk=>hk) (fun q hq=>HOKN.out q (Zt HB1.out.size hq)) HB1.out HB1.out.size ?aL ?_;(case aL=>simp;omega));intro v2 w2 ho hb hg_ hat_;have HO2:=Za ho;have HB2:=Za hb;clear ho hb hg_ hat_))
 obtain ⟨o,cap,rfl, -, -, -⟩:=Kd.N_form HO2.out (by rw [List.nil_append,HN.out];exact h0);rw [List.nil_append,HN.out] at HO2|-;have HOO:=Za (Kd.czz HO2.out o (by simp [Value.ownBlock]));clear HFA HO1 HB1 HR1;have HN2:=Za (show 1<=n/\n<=1000000/\cols<=1000000 from ⟨h0,h1,by omega⟩)
 go_loopw [11,12] (fun av cv wr=> ∃(at_ c:Nat) (out:List (List Int)),c<=cols/\at_<=c/\av= .int .i64 (at_:Int)/\cv= .int .i64 (c:Int)/\Aside0 (out.length=n)/\Aside0 (Kd.N (dM 3 .i64) 57 wr w.heap.size ok (.slice (some ⟨o,0,none⟩) n cap) out)/\Aside0 (Below w.heap.size w wr)/\Aside0 (agz.go k a0 a1 (cols - c) c out at_=some (r1,r2))) (fun _ cv _=>cols - (intOf cv).toNat)
 case atStart=>exact ⟨0,0,l2,Nat.zero_le _,Nat.zero_le _,rfl,rfl,HN,HO2,HB2,⟨by rw [Nat.sub_zero];exact HH.out⟩⟩
 clear HO2 HB2 HH;obtain ⟨wr,rfl⟩: ∃w',w'=wr:=⟨_,rfl⟩;obtain ⟨at_,c,out,hc,hac,rfl,rfl,HLN,HO,HB,HG⟩:=hrel
 have hfin:(cols - c=0\/ ¬at_<n)->r1=out/\r2=(at_:Int):=by
  intro hh;have h:=HG.out;rcases hh with hh|hh
  ·rw [hh,agz.go] at h;simp only [Zx,Zy] at h;exact ⟨h.1.symm,h.2.symm⟩
  ·cases hd:cols - c with
   |zero=>
    rw [hd,agz.go] at h;simp only [Zx,Zy] at h;exact ⟨h.1.symm,h.2.symm⟩
   |succ d=>
    rw [hd,agz.go,Yb (by rw [HLN.out];exact hh)] at h;simp only [Zx,Zy] at h;exact ⟨h.1.symm,h.2.symm⟩
 have HFIN:=Za hfin;clear hfin;by_cases hlt:c<cols
 ·by_cases hat:at_<n
  ·obtain ⟨d,hd⟩: ∃d,cols - c=d+1:=⟨cols - c - 1,by omega⟩;have h:=HG.out;rw [hd,agz.go,Ya (by rw [HLN.out];exact hat)] at h;obtain ⟨q,hpv,h⟩:=Option.bind_eq_some_iff.1 h;have HD:=Za (show cols - (c+1)=d by omega);have hrd:=Kd.bnz HO.out;have HPV:=Za (aTz.calls k (some ⟨o,0,none⟩) cap out (at_:Int) (c:Int) q wr hrd.2.2 (by rw [HLN.out];exact hrd.2.1) hpv);rw [HLN.out] at HPV;have HH:=Za h;clear hd h hpv hrd HG;have t1:(c:Int)<(cols:Int):=by omega
   have t2:(at_:Int)<(n:Int):=by omega
   go_wp2_with fail
   refine HPV.out.mono ?_;rintro e w3 ⟨rfl,m3,rfl⟩;have HO3:=Za (Kd.N_drewN HO.out m3);have HB3:=Za (aSz HB.out m3);generalize wr.drewN m3=w3 at HO3 HB3|-;clear HO HB HPV;by_cases hq0:q<0
   ·have h:=HH.out;rw [Ya hq0] at h;have HG2:=Za (show agz.go k a0 a1 (cols - (c+1)) (c+1) out at_=some (r1,r2) by rw [HD.out];exact h);clear h;go_wp2;go_roundw
    case rel=>exact ⟨at_,c+1,out,by omega,by omega,rfl,by go_num,HLN,HO3,HB3,HG2⟩
    case measure=>simp [intOf];omega
   ·have h:=HH.out;rw [Yb hq0] at h;by_cases hqn:q<(out.length:Int)
    case neg=>rw [Yb hqn] at h;cases h
    rw [Ya hqn] at h;obtain ⟨qn,rfl⟩:=Int.eq_ofNat_of_zero_le (show 0<=q by omega);rw [Zu] at h;have hqn':qn<n:=by have:=HLN.out;omega
    obtain ⟨rowq,hrq⟩: ∃x,out[qn]?=some x:=⟨_,Zf (by have:=HLN.out;omega)⟩;obtain ⟨rowa,hra⟩: ∃x,out[at_]?=some x:=⟨_,Zf (by have:=HLN.out;omega)⟩;have e1:out.getD qn [] =rowq:=by rw [Zm,hrq];rfl
    have e2:out.getD at_ [] =rowa:=by rw [Zm,hra];rfl
    rw [e1,e2] at h;by_cases hcl:c<rowq.length
    case neg=>rw [Yb hcl] at h;cases h
    rw [Ya hcl] at h;obtain ⟨x,hx⟩: ∃x,rowq[c]?=some x:=⟨_,Zf hcl⟩;have e3:rowq.getD c 0=x:=by rw [Zm,hx];rfl
    rw [e3] at h;obtain ⟨⟨iv1,iv2⟩,hiv,h⟩:=Option.bind_eq_some_iff.1 h;obtain ⟨row,hsc,h⟩:=Option.bind_eq_some_iff.1 h;obtain ⟨out2,hclr,h⟩:=Option.bind_eq_some_iff.1 h;have HCL:=Za hclr;have HG2:=Za (show agz.go k a0 a1 (cols - (c+1)) (c+1) out2 (at_+1)=some (r1,r2) by rw [HD.out];exact h);have HRQ:=Za hrq;have HRA:=Za hra;have HX:=Za hx;have HSC:=Za hsc;obtain ⟨Aq,cq,hcq,hfq,hlq,hFq⟩:=N_row HO3.out qn rowq hrq;obtain ⟨adq,rfl,hcx⟩:=cHz (Kd.F_now hFq) c x hx;have HIV:=Za (aqz.calls k a0 a1 x iv1 iv2 w3 hiv);have HRL:=Za (show∃L,L=rowq.length from ⟨_,rfl⟩);have q1:(0:Int)<=(qn:Int):=by omega
    have q2:(qn:Int)<(n:Int):=by omega
    have q3:(0:Int)<=(c:Int):=by omega
    have q4:(c:Int)<(rowq.length:Int):=by omega
    have q5:(0:Int)<=(at_:Int):=by omega
    clear h hrq hra e1 e2 hcl hx e3 hiv hsc hclr hqn hq0 hFq
    go_wp2_with fail
    refine HIV.out.mono ?_;rintro e w4 ⟨rfl,m4,rfl⟩;have HO4:=Za (Kd.N_drewN HO3.out m4);have HB4:=Za (aSz HB3.out m4);clear hcq hfq hcx HO3 HB3 HIV;generalize w3.drewN m4=w4 at HO4 HB4|-;obtain ⟨Aq',cq',hcq,hfq,hlq',hFq⟩:=N_row HO4.out qn rowq HRQ.out;have HSD:=Za (aGz.calls k a0 a1 Aq' cq' rowq iv1 row w4 (Kd.F_now hFq) hlq' HSC.out);clear hlq hlq' hFq q4
    go_wp2_with fail
    refine HSD.out.mono ?_;rintro e w5 ⟨v5,rfl,hR5,hB5⟩;obtain ⟨va,vc,rfl⟩:=Kd.aRz hR5;have HO5:=Za (Kd.epz HO4.out hB5);have HB5:=Za (HB4.out.trans (hB5.mono HB4.out.size));have hlr:=(Kd.aNz hR5).2.1;have hor:o<w4.heap.size:=Kd.N_lt HO4.out o (by simp [Value.ownBlock])
    have HFR5:=Za (show Kd.F (Kd.int .i64) w5 (fun q=>ok q/\q≠o) va row.length row from Kd.bZz (Kd.R_F (Kd.ciz rfl hR5)) (fun q hq=>by
     have h1:=Kd.bIz hR5 q hq.symm;have h2:=HB4.out.size
     exact ⟨HOKN.out q (by omega),by omega⟩))
    clear hcq hfq hR5 hB5 HSD;obtain ⟨Aq2,cq2,hcq,hfq, -, -⟩:=N_row HO5.out qn rowq HRQ.out;obtain ⟨Aa,ca,hca,hfa,hla,hFa⟩:=N_row HO5.out at_ rowa HRA.out;have HO6:=Za (N_set HO5.out qn rowq rowa HRQ.out hla hFa (fun q h=>h))
    have HAT6:=Za (show (out.set qn rowa)[at_]?=some rowa by
     by_cases e:qn=at_
     ·subst e;rw [List.getElem?_set_self (Zk HRA.out).1]
     ·rw [List.getElem?_set_ne e];exact HRA.out)
    obtain ⟨Aa6,ca6,hca6,hfa6, -, -⟩:=N_row HO6.out at_ rowa HAT6.out;have HFR6:=Za (Kd.F_far HFR5.out (p:=⟨o,qn,none⟩) (fun q hq=>hq.2) (.slice Aa rowa.length ca));have HO7:=Za (N_set HO6.out at_ rowa row HAT6.out hlr HFR6.out (fun q h=>h));have HFR7:=Za (Kd.F_far HFR6.out (p:=⟨o,at_,none⟩) (fun q hq=>hq.2) (.slice va row.length vc));have HB7:=Za (cVz (cVz HB5.out HOO.out qn (.slice Aa rowa.length ca)) HOO.out at_ (.slice va row.length vc));have HLN7:=Za (show ((out.set qn rowa).set at_ row).length=n by rw [List.length_set,List.length_set];exact HLN.out);clear hla hFa HO5 HB5 HFR5 HO6 HFR6 HAT6;go_wp2;generalize (w5.setCell ⟨o,qn,none⟩ (.slice Aa rowa.length ca)).setCell ⟨o,at_,none⟩ (.slice va row.length vc)=w7 at HO7 HFR7 HB7|-
    have HCL7:=Za (show agz.clr k a0 a1 c at_ row (n - 0) 0 ((out.set qn rowa).set at_ row)=some out2 by
     have h:=HCL.out;rw [HLN.out] at h
     exact h)
    generalize (out.set qn rowa).set at_ row=out7 at HO7 HLN7 HCL7;clear HCL HLN HRQ HRA HX HSC HRL q1 q2 hqn' HFIN HH hcq hfq hca hfa hca6 hfa6;obtain ⟨L,hL⟩: ∃L,row.length=L:=⟨_,rfl⟩;have HRL:=Za hL;rw [hL] at HFR7|-;have hlr':L<=vc:=by omega
    clear hL hlr;have HVC:=Za hlr';clear hlr'
    go_loopw [17] (fun iv wr=> ∃(i:Nat) (oi:List (List Int)),i<=n/\iv= .int .i64 (i:Int)/\Aside0 (oi.length=n)/\Aside0 (Kd.N (dM 3 .i64) 57 wr w.heap.size ok (.slice (some ⟨o,0,none⟩) n cap) oi)/\Aside0 (Below w.heap.size w wr)/\Aside0 (Kd.F (Kd.int .i64) wr (fun q=>ok q/\q≠o) va L row)/\Aside0 (agz.clr k a0 a1 c at_ row (n - i) i oi=some out2)) (fun iv _=>n - (intOf iv).toNat)
    case atStart=>exact ⟨0,out7,Nat.zero_le _,rfl,HLN7,HO7,HB7,HFR7,HCL7⟩
    clear HO7 HFR7 HB7 HLN7 HCL7;obtain ⟨w8,rfl⟩: ∃w',w'=wr:=⟨_,rfl⟩;obtain ⟨i,oi,hi,rfl,HLI,HO8,HB8,HF8,HC8⟩:=hrel;by_cases hin:i<n
    ·obtain ⟨d2,hd2⟩: ∃d,n - i=d+1:=⟨n - i - 1,by omega⟩;have HD2:=Za (show n - (i+1)=d2 by omega);have h:=HC8.out;obtain ⟨rowi,hri⟩: ∃x,oi[i]?=some x:=⟨_,Zf (by have:=HLI.out;omega)⟩;have e1:oi.getD i [] =rowi:=by rw [Zm,hri];rfl
     rw [hd2,agz.clr,e1] at h;by_cases hcl:c<rowi.length
     case neg=>rw [Yb hcl] at h;cases h
     rw [Ya hcl] at h;obtain ⟨x,hx⟩: ∃x,rowi[c]?=some x:=⟨_,Zf hcl⟩;have e3:rowi.getD c 0=x:=by rw [Zm,hx];rfl
     rw [e3] at h;have i1:(0:Int)<=(i:Int):=by omega
     have i2:(i:Int)<(n:Int):=by omega
     by_cases hia:i=at_
     ·rw [Ya hia] at h;have HC9:=Za (show agz.clr k a0 a1 c at_ row (n - (i+1)) (i+1) oi=some out2 by rw [HD2.out];exact h);have b1:((i:Int) !=(at_:Int))=false:=by simp;omega
      clear h hd2 hri e1 hcl hx e3 hia;go_wp2;go_roundw
      case rel=>exact ⟨i+1,oi,by omega,by go_num,HLI,HO8,HB8,HF8,HC9⟩
      case measure=>simp [intOf];omega
     ·rw [Yb hia] at h;have b1:((i:Int) !=(at_:Int))=true:=by simp;omega
      obtain ⟨Ai,ci,hci,hfi,hli,hFi⟩:=N_row HO8.out i rowi hri;obtain ⟨adi,rfl,hcx⟩:=cHz (Kd.F_now hFi) c x hx;have q4:(c:Int)<(rowi.length:Int):=by omega
      by_cases hx0:x=0
      ·rw [Ya hx0] at h;have HC9:=Za (show agz.clr k a0 a1 c at_ row (n - (i+1)) (i+1) oi=some out2 by rw [HD2.out];exact h);have b2:(x !=0)=false:=by simp [hx0]
       clear h hd2 hri e1 hcl hx e3 hia hx0 hli hFi;go_wp2;go_roundw
       case rel=>exact ⟨i+1,oi,by omega,by go_num,HLI,HO8,HB8,HF8,HC9⟩
       case measure=>simp [intOf];omega
      ·rw [Yb hx0] at h;have b2:(x !=0)=true:=by simpa using hx0
       obtain ⟨s,hs,h⟩:=Option.bind_eq_some_iff.1 h;obtain ⟨t,ht,h⟩:=Option.bind_eq_some_iff.1 h;have HC9:=Za (show agz.clr k a0 a1 c at_ row (n - (i+1)) (i+1) (oi.set i t)=some out2 by rw [HD2.out];exact h);have hFR:=Kd.F_now HF8.out;have hsc:=aGz.calls k a0 a1 va vc row x s w8.drew (by rw [HRL.out];exact Kd.buz hFR 1) (by rw [HRL.out];exact HVC.out) hs;rw [HRL.out] at hsc;have HSC:=Za hsc;have HAD:=Za (show∀(x1:Option Addr) (x2:Nat) (w9:World) (r1:Kd.R (Kd.int .i64) 3 w9 w8.drew.heap.size (fun _=>True) (.slice x1 s.length x2) s) (b1:Below w8.drew.heap.size w8.drew w9),Calls Tryz.prog 148 #[.slice (some adi) rowi.length ci, .slice x1 s.length x2] w9 fun e w'=> ∃v0_:Value,e= .returned (v0_)/\Kd.R (Kd.int .i64) 3 w' w9.heap.size (fun _=>True) v0_ t/\Below w9.heap.size w9 w' from fun x1 x2 w9 r1 b1=>avz.calls k (some adi) ci rowi x1 x2 s t w9 (Kd.azz (Kd.buz (Kd.F_now hFi) 1) b1) hli (Kd.aNz r1).2.2 (Kd.aNz r1).2.1 ht)
       have HRI:=Za hri;have hol:o<w8.heap.size:=Kd.N_lt HO8.out o (by simp [Value.ownBlock]);have HOL:=Za hol;clear h hd2 hri e1 hcl hx e3 hia hx0 hli hFi hFR hsc hs ht hol
       go_wp2_with fail
       refine clz (n:=20) (S:=fun w'=>w'.cell? ⟨o,i,none⟩=some (.slice (some adi) rowi.length ci)/\w'.cell? (adi.add c)=some (.int .i64 x)) (ds:= [19]) (bA 20 0) kr_ rfl rfl ⟨hci,hcx⟩ (fun hHeld=> ?_);refine pu_ 0 89 1 ?_;refine pu_ 1 90 3 ?_;refine pu_ 2 91 7 ?_;refine pu_ 3 92 15 ?_;refine pu_ 4 93 31 ?_;refine pu_ 6 95 95 ?_;refine pu_ 7 96 223 ?_;refine pu_ 8 97 479 ?_;refine pu_ 9 98 991 ?_;refine pu_ 10 99 2015 ?_;refine pu_ 11 100 4063 ?_;refine pu_ 13 102 12255 ?_;refine tk_ 5 94 12287 hHeld ?_;refine tk_ 12 101 16383 hHeld ?_;refine pu_ 14 103 32767 ?_;refine tk_ 15 104 65535 hHeld ?_;refine one_ (i:=16) (N:=some 105) (bA 20 131071) rfl rfl kr_ (by decide) (fun K hK=> ?_);refine goes_ Tryz.func147 kr_ rfl #[.int .i64 a0, .int .u32 a1, .slice va L vc, .int .i64 x] (by rfl) rfl rfl am_ ?_
       with_reducible refine (HSC.out).mono ?_
       rintro e w9 ⟨v9,rfl,r1,b9⟩;refine ⟨_,rfl,?_⟩;obtain ⟨x1,x2,rfl⟩:=Kd.aRz r1;refine hK.out _ _ ⟨aUz b9 hci,aUz b9 hcx⟩ (fun hHeld=> ?_);clear hK K;refine norm_ (a':= ?_) ?_ ?_;rotate_left
       ·show Act.put _ (some 105) _=_;simp only [Act.put,Zg,Zh,Zi,i64_w,i32_w];rfl
       refine one_ (i:=17) (N:=some 106) (bA 20 262143) rfl rfl kr_ (by decide) (fun K hK=> ?_);refine goes_ Tryz.func148 kr_ rfl #[.slice (some adi) rowi.length ci, .slice x1 s.length x2] (by rfl) rfl rfl am_ ?_
       with_reducible refine (HAD.out x1 x2 w9 r1 b9).mono ?_
       rintro e w10 ⟨v10,rfl,r2,b10⟩;refine ⟨_,rfl,?_⟩;obtain ⟨y1,y2,rfl⟩:=Kd.aRz r2;have B10:=Za (show Below w8.heap.size w8 w10 from (show Below w8.heap.size w8 w9 from ⟨b9.os,b9.tape,b9.output,b9.size,b9.block⟩).trans (b10.mono b9.size));have R2:=Za r2;have hci2:w10.cell? ⟨o,i,none⟩=some (.slice (some adi) rowi.length ci):=aUz B10.out hci;have hfi2:w10.frozen? ⟨o,i,none⟩=false:=by rw [B10.out.frozen (p:=⟨o,i,none⟩) HOL.out];exact hfi
       have HZ9:=Za (show w8.heap.size<=w9.heap.size from b9.size);refine hK.out _ _ ⟨hci2,aUz B10.out hcx⟩ (fun hHeld=> ?_);clear hK K;refine norm_ (a':= ?_) ?_ ?_;rotate_left
       ·show Act.put _ (some 106) _=_;simp only [Act.put,Zg,Zh,Zi,i64_w,i32_w];rfl
       refine pu_ 18 107 524287 ?_;refine last_ (i:=19) (N:=none) (bA 20 1048575) rfl rfl kr_ (by decide) (fun K hK=> ?_);refine skip_ (w1:= ?_) (by rfl) rfl ?_ ?_;rotate_left
       ·go_simp;rfl
       refine hK.out _ _ ?_;clear hK K;refine done_ kr_ ?_;have HO10:=Za (Kd.epz HO8.out B10.out);have HF10:=Za (Kd.cEz HF8.out B10.out)
       have HFT:=Za (show Kd.F (Kd.int .i64) w10 (fun q=>ok q/\q≠o) y1 t.length t from Kd.bZz (Kd.R_F (Kd.ciz rfl R2.out)) (fun q hq=>by
        have h1:=Kd.bIz R2.out q hq.symm;have h2:=HB8.out.size;have h3:=HZ9.out;have h4:=HOL.out
        exact ⟨HOKN.out q (by omega),by omega⟩))
       have HO11:=Za (N_set HO10.out i rowi t HRI.out (Kd.aNz R2.out).2.1 HFT.out (fun q h=>h));have HF11:=Za (Kd.F_far HF10.out (p:=⟨o,i,none⟩) (fun q hq=>hq.2) (.slice y1 t.length y2));have HB11:=Za (cVz (HB8.out.trans (B10.out.mono HB8.out.size)) HOO.out i (.slice y1 t.length y2));have HL11:=Za (show (oi.set i t).length=n by rw [List.length_set];exact HLI.out);clear hHeld hci hcx hci2 hfi hfi2;go_wp2;go_roundw
       case rel=>exact ⟨i+1,oi.set i t,by omega,by go_num,HL11,HO11,HB11,HF11,HC9⟩
       case measure=>simp [intOf];omega
    ·obtain rfl:i=n:=by omega
     have h:=HC8.out;rw [Nat.sub_self,agz.clr] at h;obtain rfl:=Zn h;clear h HC8 HF8;go_wp2;go_roundw
     case rel=>exact ⟨at_+1,c+1,oi,by omega,by omega,by go_num,by go_num,HLI,HO8,HB8,HG2⟩
     case measure=>simp [intOf];omega
  ·obtain ⟨rfl,rfl⟩:=HFIN.out (.inr hat);clear HFIN HG;go_wp2;go_ret2;exact ⟨_,rfl,HO.out,HB.out⟩
 ·obtain ⟨rfl,rfl⟩:=HFIN.out (.inl (by omega));clear HFIN HG;go_wp2;go_ret2;exact ⟨_,rfl,HO.out,HB.out⟩
mutual
def ahz.j0:Nat->Int->Int->List (List Int)->Bool->Option ((List (List Int))×Int)
 |0,_,_,_,_=>none
 |k+1,x0,x1,x2,x29=>if x29=true then (some (([] :List (List Int)),1)) else ((aiz.f k (x2.length:Int)).bind fun t186=>(ahz.l0 k x0 x1 x2 (x2.length:Int) t186 ([] :List (List Int)) 0))
def ahz.l0:Nat->Int->Int->List (List Int)->Int->List (List Int)->List (List Int)->Int->Option ((List (List Int))×Int)
 |0,_,_,_,_,_,_,_=>none
 |k+1,x0,x1,x2,x8,x9,x10,x11=>if x11<x8 then ((some (([] :List Int):List Int)).bind fun y189=>(if 0<=x11 then (if x11<(x2.length:Int) then (if y189.length+(rd_L4 x2 x11).length<17592186044416 then ((some (y189++(rd_L4 x2 x11):List Int)).bind fun y193=>(if x11<(x9.length:Int) then (if y193.length+(rd_L4 x9 x11).length<17592186044416 then (if x10.length<5864062014805 then (ahz.l0 k x0 x1 x2 x8 x9 (x10++ [(y193++(rd_L4 x9 x11))]) (wrap64 (x11+1))) else (none)) else (none)) else (none))) else (none)) else (none)) else (none))) else ((agz.f k x0 x1 x10 x8).bind fun bt203=>(if bt203.2<x8 then (some (([] :List (List Int)),2)) else (ahz.l1 k x8 bt203.1 ([] :List (List Int)) 0)))
def ahz.l1:Nat->Int->List (List Int)->List (List Int)->Int->Option ((List (List Int))×Int)
 |0,_,_,_,_=>none
 |k+1,x8,x13,x15,x16=>if x16<x8 then (if 0<=x16 then (if x16<(x13.length:Int) then (if 0<=x8 then (if x8<=((rd_L4 x13 x16).length:Int) then (if x15.length<5864062014805 then (ahz.l1 k x8 x13 (x15++ [((rd_L4 x13 x16).drop (x8:Int).toNat)]) (wrap64 (x16+1))) else (none)) else (none)) else (none)) else (none)) else (none)) else (some (x15,0))
end
def ahz.f (k:Nat) (a0:Int) (a1:Int) (l2:List (List Int)):Option ((List (List Int))×Int):=(adz.f k a0 l2).bind fun t184=>(if t184=true then (if 0<(l2.length:Int) then (ahz.j0 k a0 a1 l2 ((l2.length:Int) !=((rd_L4 l2 0).length:Int))) else (none)) else (ahz.j0 k a0 a1 l2 true))
theorem ahz.aVz: ∀k,(∀y0 y1 y2 y3,LeO (ahz.j0 k y0 y1 y2 y3) (ahz.j0 (k+1) y0 y1 y2 y3))/\(∀y0 y1 y2 y3 y4 y5 y6,LeO (ahz.l0 k y0 y1 y2 y3 y4 y5 y6) (ahz.l0 (k+1) y0 y1 y2 y3 y4 y5 y6))/\(∀y0 y1 y2 y3,LeO (ahz.l1 k y0 y1 y2 y3) (ahz.l1 (k+1) y0 y1 y2 y3))
 |0=>⟨fun _ _ _ _ r h=>by simp [ahz.j0] at h,fun _ _ _ _ _ _ _ r h=>by simp [ahz.l0] at h,fun _ _ _ _ r h=>by simp [ahz.l1] at h⟩
 |k+1=>by
  obtain ⟨ih0,ih1,ih2⟩:=ahz.aVz k;refine ⟨?_,?_,?_⟩
  ·intro y0 y1 y2 y3;unfold ahz.j0
   repeat' with_reducible first|apply ih0|apply ih1|apply ih2|apply aiz.mono|apply adz.mono|apply agz.mono|apply Yg|apply Yh|apply Yi|refine Yj ?_ fun _=>?_
  ·intro y0 y1 y2 y3 y4 y5 y6;unfold ahz.l0
   repeat' with_reducible first|apply ih0|apply ih1|apply ih2|apply aiz.mono|apply adz.mono|apply agz.mono|apply Yg|apply Yh|apply Yi|refine Yj ?_ fun _=>?_
  ·intro y0 y1 y2 y3;unfold ahz.l1
   repeat' with_reducible first|apply ih0|apply ih1|apply ih2|apply aiz.mono|apply adz.mono|apply agz.mono|apply Yg|apply Yh|apply Yi|refine Yj ?_ fun _=>?_
theorem ahz.mono: ∀a0 a1 a2 k,LeO (ahz.f k a0 a1 a2) (ahz.f (k+1) a0 a1 a2):=by
 intro a0 a1 a2 k;obtain ⟨ih0,ih1,ih2⟩:=ahz.aVz k;unfold ahz.f
 repeat' with_reducible first|apply ih0|apply ih1|apply ih2|apply aiz.mono|apply adz.mono|apply agz.mono|apply Yg|apply Yh|apply Yi|refine Yj ?_ fun _=>?_
theorem ahz.calls (k : Nat) (a0 : Int) (a1 : Int) (A2 : Option Addr) (c2 : Nat) (l2 : List (List Int)) (r1 : List (List Int)) (r2 : Int) (w : World) (hr2 : Kd.C (Kd.slice 3 (Kd.int .i64)) w A2 l2.length l2) (hc2 : l2.length <= c2) (h : ahz.f k a0 a1 l2 = some (r1, r2)) :
  Calls Tryz.prog 64 #[.int .i64 a0, .int .u32 a1, .slice A2 l2.length c2] w fun e w'=> ∃v0_:Value,e= .returned (.tuple #[v0_, .int .i64 r2])/\Kd.N (Kd.slice 3 (Kd.int .i64)) 57 w' w.heap.size (fun k_=>(w.heap.size<=k_)) v0_ r1/\Below w.heap.size w w':=by
 have HR2:=Za hr2;have HC2:=Za hc2;clear hr2 hc2;have HB:=Za (Zw w.heap.size w);have H:=h;clear h;unfold ahz.f at H;have HC4:=Za H;clear H;go_enter Tryz.func64,Tryz.ntmps64
 go_upto_region 1 with (fail)
 go_cut [29] (fun v29 wc=> ∃(kq:Nat) (x29_3:Bool),v29= .bool x29_3/\Aside0 (ahz.j0 kq a0 a1 l2 x29_3=some (r1,r2))/\Aside0 (kq<=k)/\Aside0 (Below w.heap.size w wc))
 case first=>
  have H:=HC4.out;clear HC4;obtain ⟨t184,A5,H⟩:=ob_ H
  (try dsimp only at H)
  by_cases c6:t184=true
  rotate_left
  ·replace c6:=Zr c6;subst c6;rw [Yb (show¬(false=true) by decide)] at H;have H':=Za H;clear H
   go_wp2_with (first|((with_reducible refine abz (f:=98) rfl ?_);refine gl_ (some 19) Tryz.func98 #[.int .i64 a0, .slice A2 l2.length c2] ?_;(with_reducible refine (adz.calls k a0 _ _ l2 false _ (xd_ (Kd.azz HR2.out HB.out)) (HC2.out) A5.out).mono ?_);rintro e w' ⟨rfl,⟨nd,rfl⟩⟩;refine ⟨_,rfl,?_⟩))
   go_meet
   case rel=>exact ⟨_,(true),sd_,H',⟨by first|omega|exact Zv _⟩,⟨bl_⟩⟩
  subst c6;rw [Ya rfl] at H;by_cases c7:0<(l2.length:Int)
  ·rw [Ya c7] at H;have c7b0:=Zd c7;have c7b1:decide (0<l2.length)=true:=Zd (by omega);clear c7;have H':=Za H;clear H
   go_wp2_with (first|((with_reducible refine abz (f:=98) rfl ?_);refine gl_ (some 19) Tryz.func98 #[.int .i64 a0, .slice A2 l2.length c2] ?_;(with_reducible refine (adz.calls k a0 _ _ l2 true _ (xd_ (Kd.azz HR2.out HB.out)) (HC2.out) A5.out).mono ?_);rintro e w' ⟨rfl,⟨nd,rfl⟩⟩;refine ⟨_,rfl,?_⟩;have p185:0<=(0:Int):=(by omega);have q185:0<(l2.length:Int):=Zc as_;obtain ⟨_,A185_0,c185_0,e185,hx185_0,hl185_0,hi185_0⟩:=at_L4 HR2.out 0 p185 q185;cases e185;have qi185:(0<l2.length)=True:=Zz (by omega);(try rw [show ((0:Int)).toNat=0 from rfl] at hx185_0);(try rw [Addr.add_zero'] at hx185_0);replace hx185_0:=(HB.out.cell (Zj w _ hx185_0)).trans hx185_0;have HR185_0:=Za hi185_0;have HC185_0:=Za hl185_0;clear hi185_0 hl185_0;replace p185:=Zz p185;replace q185:=Zz q185))
   go_meet
   case rel=>exact ⟨_,(((l2.length:Int) !=((rd_L4 l2 0).length:Int))),sd_,H',⟨by first|omega|exact Zv _⟩,⟨bl_⟩⟩
  ·rw [Yb c7] at H;exact Yf H (by simp)
 case rest=>
  clear HC4;obtain ⟨kq,x29_3,rfl,HA,HJ3,HB⟩:=hcut;rcases kq with _|kj3
  ·exact Yf HA.out (by simp [ahz.j0])
  have H:=HA.out;clear HA;simp only [ahz.j0] at H;by_cases c8:x29_3=true
  ·subst c8;rw [Ya rfl] at H;simp only [Zx,Zy] at H;obtain ⟨rfl,rfl⟩:=H;go_wp2;go_ret2;exact ⟨_,er_,nl_,bl_⟩
  ·replace c8:=Zr c8;subst c8;rw [Yb (show¬(false=true) by decide)] at H;obtain ⟨t186,A9,H⟩:=ob_ H
   (try dsimp only at H)
   have H':=Za H;clear H
   go_wp2_with (first|((with_reducible refine abz (f:=62) rfl ?_);refine gl_ (some 33) Tryz.func62 #[.int .i64 (l2.length:Int)] ?_;(with_reducible refine (aiz.calls kj3 (l2.length:Int) t186 _ A9.out).mono ?_);rintro e w10 ⟨v187,rfl,ho0,hb⟩;refine ⟨_,rfl,?_⟩;have n_:=Zb (Za (Kd.cbz (Kd.cnz (ok':=fun k_=>(w.heap.size<=k_)) (Kd.S_N (Kd.bFz ho0)) (fun k_ hk_=>(Zt (aez bl_) hk_.2.1))) (aez bl_))) (hs_ HB hb);clear HB;obtain ⟨HO188,HB⟩:=n_;clear hb ho0))
   go_loopg [10,11] kj3 (fun kq v10 v11 w'=> ∃(x10_2:List (List Int)) (x11_2:Int),v11= .int .i64 x11_2/\Aside0 (ahz.l0 kq a0 a1 l2 (l2.length:Int) t186 x10_2 x11_2=some (r1,r2))/\Aside0 (kq<=kj3)/\Aside0 (Kd.N (Kd.slice 3 (Kd.int .i64)) 57 w' w.heap.size (fun k_=>(w.heap.size<=k_)/\some k_≠(v10:Value).ownBlock) v187 t186)/\Aside0 (Kd.N (Kd.slice 3 (Kd.int .i64)) 57 w' w.heap.size (fun k_=>(w.heap.size<=k_)/\some k_≠(v187:Value).ownBlock) v10 x10_2)/\Aside0 (Below w.heap.size w w'))
   case atStart=>exact ⟨(([] :List (List Int))),(0),sd_,H',⟨Zv _⟩,⟨nm_ HO188⟩,⟨nl_⟩,⟨bl_⟩⟩
   clear H';obtain ⟨x10_2,x11_2,rfl,HA,HK2,HO_9,HO_10,HB⟩:=hrel;rcases gk with _|k2
   ·exact Yf HA.out (by simp [ahz.l0])
   have H:=HA.out;clear HA;simp only [ahz.l0] at H;by_cases c11:x11_2<(l2.length:Int)
   ·rw [Ya c11] at H;have c11b0:=Zd c11;clear c11;obtain ⟨y189,hy189⟩: ∃y_:List Int,y_=(([] :List Int)):=⟨_,rfl⟩
    first|rw [Zl, <-hy189] at H|rw [<-hy189] at H
    (try dsimp only at H)
    have Ny189:=Za hy189;clear hy189;by_cases c12:0<=x11_2
    rotate_left
    ·rw [Yb c12] at H;exact Yf H (by simp)
    rw [Ya c12] at H;have c12b0:=Zd c12;clear c12;by_cases c13:x11_2<(l2.length:Int)
    rotate_left
    ·rw [Yb c13] at H;exact Yf H (by simp)
    rw [Ya c13] at H;have c13b0:=Zd c13;clear c13;by_cases c14:y189.length+(rd_L4 l2 x11_2).length<17592186044416
    rotate_left
    ·rw [Yb c14] at H;exact Yf H (by simp)
    rw [Ya c14] at H;have LMc14:=Za c14;clear c14;obtain ⟨y193,hy193⟩: ∃y_:List Int,y_=(y189++(rd_L4 l2 x11_2)):=⟨_,rfl⟩
    first|rw [Zl, <-hy193] at H|rw [<-hy193] at H
    (try dsimp only at H)
    have Ny193:=Za hy193;clear hy193;by_cases c15:x11_2<(t186.length:Int)
    rotate_left
    ·rw [Yb c15] at H;exact Yf H (by simp)
    rw [Ya c15] at H;have c15b0:=Zd c15;clear c15;by_cases c16:y193.length+(rd_L4 t186 x11_2).length<17592186044416
    rotate_left
    ·rw [Yb c16] at H;exact Yf H (by simp)
    rw [Ya c16] at H;have LMc16:=Za c16;clear c16;obtain ⟨y197,hy197⟩: ∃y_:List Int,y_=(y193++(rd_L4 t186 x11_2)):=⟨_,rfl⟩
    first|rw [Zl, <-hy197] at H|rw [<-hy197] at H
    (try dsimp only at H)
    have Ny197:=Za hy197;clear hy197;by_cases c17:x10_2.length<5864062014805
    rotate_left
    ·rw [Yb c17] at H;exact Yf H (by simp)
    rw [Ya c17] at H;have LMc17:=Za c17;clear c17;obtain ⟨y200,hy200⟩: ∃y_:List (List Int),y_=(x10_2++ [y197]):=⟨_,rfl⟩
    first|rw [Zl, <-hy200] at H|rw [<-hy200] at H
    (try dsimp only at H)
    have Ny200:=Za hy200;clear hy200;have H':=Za H;clear H
    go_wp2_with (first|((with_reducible refine blz (N:=39) rfl ?_);(try (refine aYz (by rfl) ?_;dsimp only));refine Kd.R_lit (Kd.int .i64) _ 3 ?hg (N:=39) ?hd (xs:=([] :List Int)) (inner:= []) (ok:=fun _=>True) (okp:=fun _=>True) ?hr ?hp (fun _ hk=>hk) trivial (Zw _ _) (Zv _) (by simp) ?_;(case hd=>rfl);(case hg=>rfl);(case hr=>first|(go_simp;done)|(go_simp;rfl));(case hp=>exact (Reps.none _ _));intro v190 w18 ho19 hb hg_ hnew_;clear hg_ hnew_;(first|rw [<-Ny189.out] at ho19|(simp only [Int.reduceToNat] at ho19;rw [<-Ny189.out] at ho19));have n_:=Zb (Za (Kd.cpz (xd_ HO_9.out) (Kd.bIz ho19) hb)) (Zb (Za (Kd.cpz (xd_ HO_10.out) (Kd.bIz ho19) hb)) (Zb (Za (Kd.bDz (Kd.R_newM (M:=fun k_=>(w.heap.size<=k_)) ho19 (aez bl_) (fun k_ h_=>h_)) (aez bl_))) (hs_ HB hb)));clear HO_9 HO_10 HB;obtain ⟨HO_9,HO_10,HO191,HB⟩:=n_;clear hb ho19;have p192:0<=(x11_2:Int):=Zc as_;have q192:x11_2<(l2.length:Int):=Zc as_;obtain ⟨_,A192_0,c192_0,e192,hx192_0,hl192_0,hi192_0⟩:=at_L4 HR2.out x11_2 p192 q192;cases e192;replace hx192_0:=(HB.out.cell (Zj w _ hx192_0)).trans hx192_0;have HR192_0:=Za hi192_0;have HC192_0:=Za hl192_0;clear hi192_0 hl192_0;replace p192:=Zz p192;replace q192:=Zz q192)|((with_reducible refine anz (b:= .append) (xs:= #[.tmp 39, .tmp 43]) rfl ?_);(try (refine aYz (by rfl) ?_;dsimp only));at_builtin;refine Kd.chz (Kd.int .i64) (w0:=w) w.heap.size rfl (.tmp 39) (.tmp 43) 57 3 (.int .i64 0) 8 rfl Tryz.underlying57 info3 rfl (by decide) (by omega) v190 y189 (rd_L4 l2 x11_2) _ _ _ (fun k_=>(w.heap.size<=k_)) (fun _=>False) rfl rfl ?aO ?aR (fun _ _ h=>h) (fun _ h=>h.elim) ?aF ?aB ?aS ?aL ?_;(case aR=>repeat (first|exact (Kd.azz HR192_0.out HB.out)|(with_reducible refine Kd.b0z ?_ _)|(with_reducible refine Kd.buz ?_ _)|(with_reducible refine Kd.b4z ?_)));(case aB=>exact bl_);(case aF=>exact (fun k_ hk=>(Zt (aez bl_) hk)));(case aO=>exact (rm_ HO191));(case aS=>exact (aez bl_));(case aL=>have:=LMc14.out;omega);intro v194 w20 ho hb hg hat;rw [<-Ny193.out] at ho;have n_:=Zb (Za (Kd.c2z (ok:=(fun k_=>(w.heap.size<=k_)/\some k_≠(u10:Value).ownBlock)) (xd_ HO_9.out) hg hat)) (Zb (Za (Kd.c2z (ok:=(fun k_=>(w.heap.size<=k_)/\some k_≠(v187:Value).ownBlock)) (xd_ HO_10.out) hg hat)) (Zb (Za (hb)) (Za (ho))));clear HO_9 HO_10 HB HO191;obtain ⟨HO_9,HO_10,HB,HO195⟩:=n_;clear ho hb hg hat;obtain ⟨Ao21,co21,eo21⟩:=Kd.cRz HO_9.out;subst eo21;have p196:0<=(x11_2:Int):=Zc as_;have q196:x11_2<(t186.length:Int):=Zc as_;obtain ⟨ad196,A196_0,c196_0,e196,hx196_0,hl196_0,hi196_0⟩:=at_L4 (Kd.bnz HO_9.out).2.2 x11_2 p196 q196;cases e196;obtain ⟨ce196,hce196,hMe196,hcc196⟩:=Kd.N_get HO_9.out [] x11_2 p196 (by first|exact q196|exact Zc as_|(have e_:=(Kd.bnz HO_9.out).1;omega));obtain ⟨ua196_0,uc196_0,rfl,ul196_0,ge196_0⟩:=Kd.bUz hMe196;have hv196_0:=hcc196 0 _ rfl;rw [Nat.add_zero,show ((Kd.slice 3 (Kd.int .i64))).sz=1 from rfl,Nat.mul_one] at hv196_0;replace hv196_0:=Zn (hv196_0.symm.trans hx196_0);injection hv196_0 with hva_ hvn_ hvc_;rw [hva_] at ge196_0;rw [hvc_] at ul196_0;have HL196_0:=Za (show Kd.V (Kd.int .i64) 3 _ w.heap.size _ _ (rd_L4 t186 x11_2) from Kd.V_mk ul196_0 ge196_0);clear hva_ hvn_ hvc_ ge196_0 ul196_0;clear hcc196 hce196;have HR196_0:=Za hi196_0;have HC196_0:=Za hl196_0;clear hi196_0 hl196_0;replace p196:=Zz p196;replace q196:=Zz q196)|((with_reducible refine anz (b:= .append) (xs:= #[.tmp 45, .tmp 49]) rfl ?_);(try (refine aYz (by rfl) ?_;dsimp only));at_builtin;refine Kd.chz (Kd.int .i64) (w0:=w) w.heap.size rfl (.tmp 45) (.tmp 49) 57 3 (.int .i64 0) 8 rfl Tryz.underlying57 info3 rfl (by decide) (by omega) v194 y193 (rd_L4 t186 x11_2) _ _ _ (fun k_=>(w.heap.size<=k_)) (fun _=>False) rfl rfl ?aO ?aR (fun _ _ h=>h) (fun _ h=>h.elim) ?aF ?aB ?aS ?aL ?_;(case aR=>repeat (first|exact (by repeat (first|(with_reducible exact HR196_0.out)|(with_reducible refine Kd.b0z ?_ _)|(with_reducible refine Kd.buz ?_ _)|(with_reducible refine Kd.b4z ?_)|exact HR196_0.out))|(with_reducible refine Kd.b0z ?_ _)|(with_reducible refine Kd.buz ?_ _)|(with_reducible refine Kd.b4z ?_)));(case aB=>exact bl_);(case aF=>exact (fun k_ hk=>(Zt (aez bl_) hk)));(case aO=>exact (xd_ HO195.out));(case aS=>exact (aez bl_));(case aL=>have:=LMc16.out;omega);intro v198 w22 ho hb hg hat;rw [<-Ny197.out] at ho;have n_:=Zb (Za (Kd.c2z (ok:=(fun k_=>(w.heap.size<=k_)/\some k_≠(u10:Value).ownBlock)) (xd_ HO_9.out) hg hat)) (Zb (Za (Kd.c2z (ok:=(fun k_=>(w.heap.size<=k_)/\some k_≠(.slice (some ad196) t186.length co21:Value).ownBlock)) (xd_ HO_10.out) hg hat)) (Zb (Za (Kd.b9z (ok:=(fun k_=>(w.heap.size<=k_)/\some k_≠(.slice (some ad196) t186.length co21:Value).ownBlock/\some k_≠(u10:Value).ownBlock)) (by (with_reducible repeat (first|apply Kd.ccz|apply Kd.cdz|apply Kd.coz));exact Kd.b1z HL196_0.out (fun _ hk=>⟨⟨hk.1.1.1,⟨hk.2,hk.1.1.2⟩⟩,hk.1.2⟩)) hg hat)) (Zb (Za (hb)) (Za (ho)))));clear HO_9 HO_10 HL196_0 HB HO195;obtain ⟨HO_9,HO_10,HL196_0,HB,HO199⟩:=n_;clear ho hb hg hat;obtain ⟨Ao24,co24,eo24⟩:=Kd.aRz HO199.out;subst eo24)|((with_reducible refine anz (b:= .append) (xs:= #[.tmp 51, .tmp 53]) rfl ?_);(try (refine aYz (by rfl) ?_;dsimp only));at_builtin;refine Kd.N_append (Kd.slice 3 (Kd.int .i64)) (w0:=w) w.heap.size rfl (.tmp 51) (.tmp 53) 68 57 (.slice none 0 0) 24 rfl Tryz.underlying68 info57 rfl (by decide) (by omega) u10 x10_2 y197 [.slice Ao24 y197.length co24] (fun k_=>(w.heap.size<=k_)/\some k_≠(.slice (some ad196) t186.length co21:Value).ownBlock) (fun k_=>((fun k_=>(w.heap.size<=k_)/\some k_≠(.slice (some ad196) t186.length co21:Value).ownBlock)) k_/\some k_≠(u10:Value).ownBlock) rfl rfl ?aP (fun _ hk=>hk) ?aF ?aO ?aB ?aS ?aL ?_;(case aP=>exact (Kd.cWz (Kd.aNz (Kd.aJz (ok':=(fun k_=>((fun k_=>(w.heap.size<=k_)/\some k_≠(.slice (some ad196) t186.length co21:Value).ownBlock)) k_/\some k_≠(u10:Value).ownBlock)) (Kd.brz (Kd.brz (HO199.out) (Kd.cKz HO_9.out) (by decide)) (Kd.cKz HO_10.out) (by decide)) (fun k_ hk=>⟨⟨hk.1.1,hk.1.2⟩,hk.2⟩))).2.1 (Kd.R_F (Kd.aJz (ok':=(fun k_=>((fun k_=>(w.heap.size<=k_)/\some k_≠(.slice (some ad196) t186.length co21:Value).ownBlock)) k_/\some k_≠(u10:Value).ownBlock)) (Kd.brz (Kd.brz (HO199.out) (Kd.cKz HO_9.out) (by decide)) (Kd.cKz HO_10.out) (by decide)) (fun k_ hk=>⟨⟨hk.1.1,hk.1.2⟩,hk.2⟩)))));(case aB=>exact bl_);(case aF=>exact (fun k_ hk=>⟨(Zt (aez bl_) hk),Kd.fresh' (Kd.N_lt (xd_ HO_9.out)) k_ hk⟩));(case aO=>exact (nm_ HO_10));(case aS=>exact (aez bl_));(case aL=>have:=LMc17.out;omega);intro v201 w23 ho hb hg hat;rw [<-Ny200.out] at ho;have n_:=Zb (Za (Kd.c2z (ok:=(fun k_=>(w.heap.size<=k_)/\some k_≠(.slice Ao24 y197.length co24:Value).ownBlock)) (nm_ HO_9) hg hat)) (Zb (Za (Kd.b9z (ok:=(fun k_=>(w.heap.size<=k_)/\some k_≠(.slice (some ad196) t186.length co21:Value).ownBlock/\some k_≠(.slice Ao24 y197.length co24:Value).ownBlock)) (by (with_reducible repeat (first|apply Kd.ccz|apply Kd.cdz|apply Kd.coz));exact Kd.b1z HL196_0.out (fun _ hk=>⟨⟨hk.1.1,⟨hk.1.2.1,hk.2⟩⟩,hk.1.2.2⟩)) hg hat)) (Zb (Za (hb)) (Za (ho))));clear HO_9 HL196_0 HB HO_10 HO199;obtain ⟨HO_9,HL196_0,HB,HO202⟩:=n_;clear ho hb hg hat))
    go_roundg k2
    case measure=>have:=HJ3.out;have:=HK2.out;omega
    case rel=>exact ⟨(y200),(wrap64 (x11_2+1)),sd_,H',⟨by have:=HJ3.out;have:=HK2.out;omega⟩,⟨nm_ HO_9⟩,⟨xd_ HO202.out⟩,⟨bl_⟩⟩
   ·rw [Yb c11] at H;have c11b0:=Ze c11;clear c11;obtain ⟨⟨t203,t206⟩,A25,H⟩:=ob_ H
    (try dsimp only at H)
    by_cases c26:t206<(l2.length:Int)
    ·rw [Ya c26] at H;have c26b0:=Zd c26;clear c26;simp only [Zx,Zy] at H;obtain ⟨rfl,rfl⟩:=H;obtain ⟨Ao27,co27,eo27⟩:=Kd.cRz HO_10.out;subst eo27
     go_wp2_with (first|((with_reducible refine abz (f:=99) rfl ?_);refine gl_ (some 60) Tryz.func99 #[.int .i64 a0, .int .u32 a1, .slice Ao27 x10_2.length co27, .int .i64 (l2.length:Int)] ?_;(with_reducible refine (agz.calls k2 a0 a1 (fun k_=>((w.heap.size<=k_)/\some k_≠(v187:Value).ownBlock)) _ _ x10_2 (l2.length:Int) t203 t206 _ (Kd.N_V (HO_10.out)) A25.out).mono ?_);rintro e w28 ⟨v204,rfl,ho0,hb⟩;refine ⟨_,rfl,?_⟩;have n_:=Zb (Za (Kd.cpz (xd_ HO_9.out) (Kd.czz ho0) hb)) (Zb (Za (Kd.cpz (xd_ HO_10.out) (Kd.czz ho0) hb)) (Zb (Za (Kd.cbz (Kd.cnz (ok':=fun k_=>(w.heap.size<=k_)/\some k_≠(v187:Value).ownBlock) ho0 (fun k_ hk_=>⟨Or.elim hk_ (fun hs_=>hs_.1) (fun hn_=>(Zt (aez bl_) hn_)),Or.elim hk_ (fun hs_=>hs_.2) (fun hn_=>(Kd.fresh' (Kd.N_lt (xd_ HO_9.out)) k_ hn_))⟩)) (aez bl_))) (hs_ HB hb)));clear HO_9 HO_10 HB;obtain ⟨HO_9,HO_10,HO205,HB⟩:=n_;clear hb ho0))
     go_ret2;exact ⟨_,er_,nl_,bl_⟩
    ·rw [Yb c26] at H;have c26b0:=Ze c26;clear c26;have H':=Za H;clear H;obtain ⟨Ao29,co29,eo29⟩:=Kd.cRz HO_10.out;subst eo29
     go_wp2_with (first|((with_reducible refine abz (f:=99) rfl ?_);refine gl_ (some 60) Tryz.func99 #[.int .i64 a0, .int .u32 a1, .slice Ao29 x10_2.length co29, .int .i64 (l2.length:Int)] ?_;(with_reducible refine (agz.calls k2 a0 a1 (fun k_=>((w.heap.size<=k_)/\some k_≠(v187:Value).ownBlock)) _ _ x10_2 (l2.length:Int) t203 t206 _ (Kd.N_V (HO_10.out)) A25.out).mono ?_);rintro e w30 ⟨v204,rfl,ho0,hb⟩;refine ⟨_,rfl,?_⟩;have n_:=Zb (Za (Kd.cpz (xd_ HO_9.out) (Kd.czz ho0) hb)) (Zb (Za (Kd.cpz (xd_ HO_10.out) (Kd.czz ho0) hb)) (Zb (Za (Kd.cbz (Kd.cnz (ok':=fun k_=>(w.heap.size<=k_)/\some k_≠(v187:Value).ownBlock) ho0 (fun k_ hk_=>⟨Or.elim hk_ (fun hs_=>hs_.1) (fun hn_=>(Zt (aez bl_) hn_)),Or.elim hk_ (fun hs_=>hs_.2) (fun hn_=>(Kd.fresh' (Kd.N_lt (xd_ HO_9.out)) k_ hn_))⟩)) (aez bl_))) (hs_ HB hb)));clear HO_9 HO_10 HB;obtain ⟨HO_9,HO_10,HO205,HB⟩:=n_;clear hb ho0))
     go_loopg [15,16] k2 (fun kq v15 v16 w'=> ∃(x15_3:List (List Int)) (x16_3:Int),v16= .int .i64 x16_3/\Aside0 (ahz.l1 kq (l2.length:Int) t203 x15_3 x16_3=some (r1,r2))/\Aside0 (kq<=k2)/\Aside0 (Kd.N (Kd.slice 3 (Kd.int .i64)) 57 w' w.heap.size (fun k_=>(w.heap.size<=k_)/\some k_≠(v15:Value).ownBlock) v204 t203)/\Aside0 (Kd.N (Kd.slice 3 (Kd.int .i64)) 57 w' w.heap.size (fun k_=>(w.heap.size<=k_)/\some k_≠(v204:Value).ownBlock) v15 x15_3)/\Aside0 (Below w.heap.size w w'))
     case atStart=>exact ⟨(([] :List (List Int))),(0),sd_,H',⟨Zv _⟩,⟨nm_ HO205⟩,⟨nl_⟩,⟨bl_⟩⟩
     clear H';clear c11b0 c26b0;obtain ⟨x15_3,x16_3,rfl,HA,HK3,HO_13,HO_15,HB⟩:=hrel;rcases gk with _|k3
     ·exact Yf HA.out (by simp [ahz.l1])
     have H:=HA.out;clear HA;simp only [ahz.l1] at H;by_cases c31:x16_3<(l2.length:Int)
     rotate_left
     ·rw [Yb c31] at H;have c31b0:=Ze c31;clear c31;simp only [Zx,Zy] at H;obtain ⟨rfl,rfl⟩:=H;go_wp2;go_ret2;exact ⟨_,er_,nm_ HO_15,bl_⟩
     rw [Ya c31] at H;have c31b0:=Zd c31;clear c31;by_cases c32:0<=x16_3
     rotate_left
     ·rw [Yb c32] at H;exact Yf H (by simp)
     rw [Ya c32] at H;have c32b0:=Zd c32;clear c32;by_cases c33:x16_3<(t203.length:Int)
     rotate_left
     ·rw [Yb c33] at H;exact Yf H (by simp)
     rw [Ya c33] at H;have c33b0:=Zd c33;clear c33;by_cases c34:0<=(l2.length:Int)
     rotate_left
     ·rw [Yb c34] at H;exact Yf H (by simp)
     rw [Ya c34] at H;have c34b0:=Zz c34;have c34b1:=Zd c34;clear c34;by_cases c35:(l2.length:Int)<=((rd_L4 t203 x16_3).length:Int)
     rotate_left
     ·rw [Yb c35] at H;exact Yf H (by simp)
     rw [Ya c35] at H;have c35b0:=Zz c35;have c35b1:=Zd c35;clear c35;obtain ⟨y208,hy208⟩: ∃y_:List Int,y_=((rd_L4 t203 x16_3).drop ((l2.length:Int):Int).toNat):=⟨_,rfl⟩
     first|rw [Zl, <-hy208] at H|rw [<-hy208] at H
     (try dsimp only at H)
     have Ny208:=Za hy208;clear hy208;by_cases c36:x15_3.length<5864062014805
     rotate_left
     ·rw [Yb c36] at H;exact Yf H (by simp)
     rw [Ya c36] at H;have LMc36:=Za c36;clear c36;obtain ⟨y213,hy213⟩: ∃y_:List (List Int),y_=(x15_3++ [y208]):=⟨_,rfl⟩
     first|rw [Zl, <-hy213] at H|rw [<-hy213] at H
     (try dsimp only at H)
     have Ny213:=Za hy213;clear hy213;have H':=Za H;clear H;obtain ⟨Ao37,co37,eo37⟩:=Kd.cRz HO_13.out;subst eo37;have p207:0<=(x16_3:Int):=Zc as_;have q207:x16_3<(t203.length:Int):=Zc as_;obtain ⟨ad207,A207_0,c207_0,e207,hx207_0,hl207_0,hi207_0⟩:=at_L4 (Kd.bnz HO_13.out).2.2 x16_3 p207 q207;cases e207
     obtain ⟨ce207,hce207,hMe207,hcc207⟩:=Kd.N_get HO_13.out [] x16_3 p207 (by first|exact q207|exact Zc as_|(have e_:=(Kd.bnz HO_13.out).1;omega));obtain ⟨ua207_0,uc207_0,rfl,ul207_0,ge207_0⟩:=Kd.bUz hMe207;have hv207_0:=hcc207 0 _ rfl;rw [Nat.add_zero,show ((Kd.slice 3 (Kd.int .i64))).sz=1 from rfl,Nat.mul_one] at hv207_0;replace hv207_0:=Zn (hv207_0.symm.trans hx207_0);injection hv207_0 with hva_ hvn_ hvc_
     rw [hva_] at ge207_0;rw [hvc_] at ul207_0;have HL207_0:=Za (show Kd.V (Kd.int .i64) 3 _ w.heap.size _ _ (rd_L4 t203 x16_3) from Kd.V_mk ul207_0 ge207_0);clear hva_ hvn_ hvc_ ge207_0 ul207_0;clear hcc207 hce207;have HR207_0:=Za hi207_0;have HC207_0:=Za hl207_0;clear hi207_0 hl207_0;replace p207:=Zz p207;replace q207:=Zz q207;have q38:((l2.length:Int):Int)<=(((rd_L4 t203 x16_3).length:Int):Int):=Zc as_;obtain ⟨i038,hi038,_,hsz38,_⟩:=info_parts info3;have hroom38:(rd_L4 t203 x16_3).length<=c207_0:=HC207_0.out;have hC38:Kd.F (Kd.int .i64) _ _ A207_0 (rd_L4 t203 x16_3).length (rd_L4 t203 x16_3):=(Kd.V_at (base:=w.heap.size) HL207_0.out).2.2;have q038:(0:Int)<=((l2.length:Int):Int):=Zc as_;have hcut38:=cut_from (P:=Tryz.prog) 57 3 .i64 Tryz.underlying57 hi038 1 hsz38 A207_0 (rd_L4 t203 x16_3).length c207_0 (l2.length:Int) q038 q38;have hr38:=Kd.F_cut (m:=((l2.length:Int):Int).toNat) (c:=c207_0) hC38 (by omega) hroom38
     obtain ⟨A38,hA38⟩: ∃Aq_,Aq_=(if c207_0=((l2.length:Int):Int).toNat then A207_0 else (A207_0:Option Addr).map (·.add (((l2.length:Int):Int).toNat*1))):=⟨_,rfl⟩;obtain ⟨c38,hc38⟩: ∃cq_,cq_=c207_0 - ((l2.length:Int):Int).toNat:=⟨_,rfl⟩;have hy38:y208.length=(rd_L4 t203 x16_3).length - ((l2.length:Int):Int).toNat:=(by rw [Ny208.out,List.length_drop] <;>omega);rw [show (rd_L4 t203 x16_3).drop ((l2.length:Int):Int).toNat=y208 from Ny208.out.symm] at hr38;replace hr38:Kd.F (Kd.int .i64) _ _ A38 y208.length y208:=(by rw [hA38];exact hr38);rw [<-hy38, <-hA38, <-hc38] at hcut38;have HO212:=Za (show Kd.V (Kd.int .i64) 3 _ w.heap.size _ (.slice A38 y208.length c38) y208 from Kd.V_mk (by rw [hy38,hc38];exact Nat.sub_le_sub_right hroom38 _) hr38);have HC212:=Za (show y208.length<=c38 from by rw [hy38,hc38];exact Nat.sub_le_sub_right hroom38 _);clear hr38 hC38 hroom38 hi038 hsz38 hc38;have KY38:=Za hy38;have KA38:=Za hA38
     clear hy38 hA38;replace q38:=Zz q38
     go_wp2_with (first|((with_reducible refine anz (b:= .append) (xs:= #[.tmp 71, .tmp 78]) rfl ?_);(try (refine aYz (by rfl) ?_;dsimp only));at_builtin;refine Kd.N_append (Kd.slice 3 (Kd.int .i64)) (w0:=w) w.heap.size rfl (.tmp 71) (.tmp 78) 68 57 (.slice none 0 0) 24 rfl Tryz.underlying68 info57 rfl (by decide) (by omega) u15 x15_3 y208 [.slice A38 y208.length c38] (fun k_=>(w.heap.size<=k_)/\some k_≠(.slice (some ad207) t203.length co37:Value).ownBlock) (fun k_=>((fun k_=>(w.heap.size<=k_)/\some k_≠(.slice (some ad207) t203.length co37:Value).ownBlock)) k_/\some k_≠(u15:Value).ownBlock) rfl rfl ?aP (fun _ hk=>hk) ?aF ?aO ?aB ?aS ?aL ?_;(case aP=>exact (Kd.cWz (Kd.bCz (Kd.b1z (ok':=(fun k_=>((fun k_=>(w.heap.size<=k_)/\some k_≠(.slice (some ad207) t203.length co37:Value).ownBlock)) k_/\some k_≠(u15:Value).ownBlock)) (HO212.out) (fun k_ hk=>⟨⟨hk.1.1,hk.2⟩,hk.1.2⟩))).2.1 (Kd.V_F (Kd.b1z (ok':=(fun k_=>((fun k_=>(w.heap.size<=k_)/\some k_≠(.slice (some ad207) t203.length co37:Value).ownBlock)) k_/\some k_≠(u15:Value).ownBlock)) (HO212.out) (fun k_ hk=>⟨⟨hk.1.1,hk.2⟩,hk.1.2⟩)))));(case aB=>exact bl_);(case aF=>exact (fun k_ hk=>⟨(Zt (aez bl_) hk),Kd.fresh' (Kd.N_lt (xd_ HO_13.out)) k_ hk⟩));(case aO=>exact (xd_ HO_15.out));(case aS=>exact (aez bl_));(case aL=>have:=LMc36.out;omega);intro v214 w39 ho hb hg hat;rw [<-Ny213.out] at ho;have n_:=Zb (Za (Kd.c2z (ok:=(fun k_=>(w.heap.size<=k_))) (xd_ HO_13.out) hg hat)) (Zb (Za (Kd.b9z (ok:=(fun k_=>(w.heap.size<=k_)/\some k_≠(.slice (some ad207) t203.length co37:Value).ownBlock)) (by (with_reducible repeat (first|apply Kd.ccz|apply Kd.cdz|apply Kd.coz));exact Kd.b1z HL207_0.out (fun _ hk=>⟨⟨hk.1.1,hk.2⟩,hk.1.2⟩)) hg hat)) (Zb (Za (Kd.b9z (ok:=(fun k_=>(w.heap.size<=k_)/\some k_≠(.slice (some ad207) t203.length co37:Value).ownBlock)) (vm_ HO212) hg hat)) (Zb (Za (hb)) (Za (ho)))));clear HO_13 HL207_0 HO212 HB HO_15;obtain ⟨HO_13,HL207_0,HO212,HB,HO215⟩:=n_;clear ho hb hg hat))
     go_roundg k3
     case measure=>have:=HJ3.out;have:=HK2.out;have:=HK3.out;omega
     case rel=>exact ⟨(y213),(wrap64 (x16_3+1)),sd_,H',⟨by have:=HJ3.out;have:=HK2.out;have:=HK3.out;omega⟩,⟨xd_ HO_13.out⟩,⟨xd_ HO215.out⟩,⟨bl_⟩⟩
def bgz.f (a0:Int) (a1:Int):Option (Bool):=if a0>=1 then (if a0<=20 then (if a1>=1 then (if a1<=20 then (some (decide ((wrap64 (a0+a1))<=20))) else (some false)) else (some false)) else (some false)) else (some false)
theorem bgz.calls (a0 : Int) (a1 : Int) (r : Bool) (w : World) (h : bgz.f a0 a1 = some r) :
  Calls Tryz.prog 129 #[.int .i64 a0, .int .i64 a1] w fun e w'=>e= .returned (.bool r)/\Drawn0 w w':=by
 have H:=h;clear h;unfold bgz.f at H;by_cases c3:a0>=1
 rotate_left
 ·rw [Yb c3] at H;have c3b0:decide (1<=a0)=false:=Ze c3;clear c3;obtain rfl:=Zn H;go_enter Tryz.func129,Tryz.ntmps129;go_wp2;go_ret;exact ⟨sd_,dn_⟩
 rw [Ya c3] at H;have c3b0:decide (1<=a0)=true:=Zd c3;clear c3;by_cases c4:a0<=20
 rotate_left
 ·rw [Yb c4] at H;have c4b0:=Ze c4;clear c4;obtain rfl:=Zn H;go_enter Tryz.func129,Tryz.ntmps129;go_wp2;go_ret;exact ⟨sd_,dn_⟩
 rw [Ya c4] at H;have c4b0:=Zd c4;clear c4;by_cases c5:a1>=1
 rotate_left
 ·rw [Yb c5] at H;have c5b0:decide (1<=a1)=false:=Ze c5;clear c5;obtain rfl:=Zn H;go_enter Tryz.func129,Tryz.ntmps129;go_wp2;go_ret;exact ⟨sd_,dn_⟩
 rw [Ya c5] at H;have c5b0:decide (1<=a1)=true:=Zd c5;clear c5;by_cases c6:a1<=20
 ·rw [Ya c6] at H;have c6b0:=Zd c6;clear c6;obtain rfl:=Zn H;go_enter Tryz.func129,Tryz.ntmps129;go_wp2;go_ret;exact ⟨sd_,dn_⟩
 ·rw [Yb c6] at H;have c6b0:=Ze c6;clear c6;obtain rfl:=Zn H;go_enter Tryz.func129,Tryz.ntmps129;go_wp2;go_ret;exact ⟨sd_,dn_⟩
mutual
def aoz.j0:Nat->Int->Int->Int->Int->Bool->Option ((List (List Int))×Bool)
 |0,_,_,_,_,_=>none
 |k+1,x0,x1,x2,x3,x27=>if x27=true then (some (([] :List (List Int)),false)) else (aoz.l0 k x0 x1 x2 x3 ([] :List (List Int)) 0)
def aoz.l0:Nat->Int->Int->Int->Int->List (List Int)->Int->Option ((List (List Int))×Bool)
 |0,_,_,_,_,_,_=>none
 |k+1,x0,x1,x2,x3,x10,x11=>if x11<x2 then (aoz.l1 k x0 x1 x2 x3 x10 x11 ([] :List Int) 0) else (some (x10,true))
def aoz.l1:Nat->Int->Int->Int->Int->List (List Int)->Int->List Int->Int->Option ((List (List Int))×Bool)
 |0,_,_,_,_,_,_,_,_=>none
 |k+1,x0,x1,x2,x3,x10,x11,x12,x13=>if x13<x3 then ((aKz.f k x0 x1 x11 x13).bind fun t216=>(if x12.length<17592186044416 then (aoz.l1 k x0 x1 x2 x3 x10 x11 (x12++ [t216]) (wrap64 (x13+1))) else (none))) else (if x10.length<5864062014805 then (aoz.l0 k x0 x1 x2 x3 (x10++ [x12]) (wrap64 (x11+1))) else (none))
end
def aoz.f (k:Nat) (a0:Int) (a1:Int) (a2:Int) (a3:Int):Option ((List (List Int))×Bool):=if a2<1 then (aoz.j0 k a0 a1 a2 a3 true) else (if a2>20 then (aoz.j0 k a0 a1 a2 a3 true) else (if a3<1 then (aoz.j0 k a0 a1 a2 a3 true) else (aoz.j0 k a0 a1 a2 a3 (decide (a3>20)))))
theorem aoz.aVz: ∀k,(∀y0 y1 y2 y3 y4,LeO (aoz.j0 k y0 y1 y2 y3 y4) (aoz.j0 (k+1) y0 y1 y2 y3 y4))/\(∀y0 y1 y2 y3 y4 y5,LeO (aoz.l0 k y0 y1 y2 y3 y4 y5) (aoz.l0 (k+1) y0 y1 y2 y3 y4 y5))/\(∀y0 y1 y2 y3 y4 y5 y6 y7,LeO (aoz.l1 k y0 y1 y2 y3 y4 y5 y6 y7) (aoz.l1 (k+1) y0 y1 y2 y3 y4 y5 y6 y7))
 |0=>⟨fun _ _ _ _ _ r h=>by simp [aoz.j0] at h,fun _ _ _ _ _ _ r h=>by simp [aoz.l0] at h,fun _ _ _ _ _ _ _ _ r h=>by simp [aoz.l1] at h⟩
 |k+1=>by
  obtain ⟨ih0,ih1,ih2⟩:=aoz.aVz k;refine ⟨?_,?_,?_⟩
  ·intro y0 y1 y2 y3 y4;unfold aoz.j0
   repeat' with_reducible first|apply ih0|apply ih1|apply ih2|apply aKz.mono|apply Yg|apply Yh|apply Yi|refine Yj ?_ fun _=>?_
  ·intro y0 y1 y2 y3 y4 y5;unfold aoz.l0
   repeat' with_reducible first|apply ih0|apply ih1|apply ih2|apply aKz.mono|apply Yg|apply Yh|apply Yi|refine Yj ?_ fun _=>?_
  ·intro y0 y1 y2 y3 y4 y5 y6 y7;unfold aoz.l1
   repeat' with_reducible first|apply ih0|apply ih1|apply ih2|apply aKz.mono|apply Yg|apply Yh|apply Yi|refine Yj ?_ fun _=>?_
theorem aoz.mono: ∀a0 a1 a2 a3 k,LeO (aoz.f k a0 a1 a2 a3) (aoz.f (k+1) a0 a1 a2 a3):=by
 intro a0 a1 a2 a3 k;obtain ⟨ih0,ih1,ih2⟩:=aoz.aVz k;unfold aoz.f
 repeat' with_reducible first|apply ih0|apply ih1|apply ih2|apply aKz.mono|apply Yg|apply Yh|apply Yi|refine Yj ?_ fun _=>?_
theorem aoz.calls (k : Nat) (a0 : Int) (a1 : Int) (a2 : Int) (a3 : Int) (r1 : List (List Int)) (r2 : Bool) (w : World) (h : aoz.f k a0 a1 a2 a3 = some (r1, r2)) :
  Calls Tryz.prog 133 #[.int .i64 a0, .int .u32 a1, .int .i64 a2, .int .i64 a3] w fun e w'=> ∃v0_:Value,e= .returned (.tuple #[v0_, .bool r2])/\Kd.S (Kd.slice 3 (Kd.int .i64)) 57 w' w.heap.size (fun _=>True) v0_ r1/\Below w.heap.size w w':=by
 have HB:=Za (Zw w.heap.size w);have H:=h;clear h;unfold aoz.f at H;have HC5:=Za H;clear H;go_enter Tryz.func133,Tryz.ntmps133
 go_upto_region 1 with (fail)
 go_cut [27] (fun v27 wc=> ∃(kq:Nat) (x27_4:Bool),v27= .bool x27_4/\Aside0 (aoz.j0 kq a0 a1 a2 a3 x27_4=some (r1,r2))/\Aside0 (kq<=k)/\Aside0 (Below w.heap.size w wc))
 case first=>
  have H:=HC5.out;clear HC5;by_cases c6:a2<1
  ·rw [Ya c6] at H;have c6b0:=Zd c6;clear c6;have H':=Za H;clear H;go_wp2
   go_meet
   case rel=>exact ⟨_,(true),sd_,H',⟨by first|omega|exact Zv _⟩,⟨bl_⟩⟩
  ·rw [Yb c6] at H;have c6b0:=Ze c6;clear c6;by_cases c7:a2>20
   ·rw [Ya c7] at H;have c7b0:decide (20<a2)=true:=Zd c7;clear c7;have H':=Za H;clear H;go_wp2
    go_meet
    case rel=>exact ⟨_,(true),sd_,H',⟨by first|omega|exact Zv _⟩,⟨bl_⟩⟩
   ·rw [Yb c7] at H;have c7b0:decide (20<a2)=false:=Ze c7;clear c7;by_cases c8:a3<1
    ·rw [Ya c8] at H;have c8b0:=Zd c8;clear c8;have H':=Za H;clear H;go_wp2
     go_meet
     case rel=>exact ⟨_,(true),sd_,H',⟨by first|omega|exact Zv _⟩,⟨bl_⟩⟩
    ·rw [Yb c8] at H;have c8b0:=Ze c8;clear c8;have H':=Za H;clear H;go_wp2
     go_meet
     case rel=>exact ⟨_,(decide (a3>20)),sd_,H',⟨by first|omega|exact Zv _⟩,⟨bl_⟩⟩
 case rest=>
  clear HC5;obtain ⟨kq,x27_4,rfl,HA,HJ4,HB⟩:=hcut;rcases kq with _|kj4
  ·exact Yf HA.out (by simp [aoz.j0])
  have H:=HA.out;clear HA;simp only [aoz.j0] at H;by_cases c9:x27_4=true
  ·subst c9;rw [Ya rfl] at H;simp only [Zx,Zy] at H;obtain ⟨rfl,rfl⟩:=H;go_wp2;go_ret2;exact ⟨_,er_,nl_,bl_⟩
  ·replace c9:=Zr c9;subst c9;rw [Yb (show¬(false=true) by decide)] at H;have H':=Za H;clear H;go_wp2
   go_loopg [10,11] kj4 (fun kq v10 v11 w'=> ∃(x10_2:List (List Int)) (x11_2:Int),v11= .int .i64 x11_2/\Aside0 (aoz.l0 kq a0 a1 a2 a3 x10_2 x11_2=some (r1,r2))/\Aside0 (kq<=kj4)/\Aside0 (Kd.S (Kd.slice 3 (Kd.int .i64)) 57 w' w.heap.size (fun _=>True) v10 x10_2)/\Aside0 (Below w.heap.size w w'))
   case atStart=>exact ⟨(([] :List (List Int))),(0),sd_,H',⟨Zv _⟩,⟨nl_⟩,⟨bl_⟩⟩
   clear H';obtain ⟨x10_2,x11_2,rfl,HA,HK2,HO_10,HB⟩:=hrel;rcases gk with _|k2
   ·exact Yf HA.out (by simp [aoz.l0])
   have H:=HA.out;clear HA;simp only [aoz.l0] at H;by_cases c10:x11_2<a2
   rotate_left
   ·rw [Yb c10] at H;have c10b0:=Ze c10;clear c10;simp only [Zx,Zy] at H;obtain ⟨rfl,rfl⟩:=H;go_wp2;go_ret2;exact ⟨_,er_,xd_ HO_10.out,bl_⟩
   rw [Ya c10] at H;have c10b0:=Zd c10;clear c10;have H':=Za H;clear H;go_wp2
   go_loopg [12,13] k2 (fun kq v12 v13 w'=> ∃(x12_3:List Int) (x13_3:Int),v13= .int .i64 x13_3/\Aside0 (aoz.l1 kq a0 a1 a2 a3 x10_2 x11_2 x12_3 x13_3=some (r1,r2))/\Aside0 (kq<=k2)/\Aside0 (Kd.S (Kd.slice 3 (Kd.int .i64)) 57 w' w.heap.size (fun k_=>some k_≠(v12:Value).ownBlock) u10 x10_2)/\Aside0 (Kd.R (Kd.int .i64) 3 w' w.heap.size (fun _=>True) v12 x12_3)/\Aside0 (Below w.heap.size w w'))
   case atStart=>exact ⟨(([] :List Int)),(0),sd_,H',⟨Zv _⟩,⟨sm_ HO_10⟩,⟨nl_⟩,⟨bl_⟩⟩
   clear H';clear c10b0;obtain ⟨x12_3,x13_3,rfl,HA,HK3,HO_10,HO_12,HB⟩:=hrel;rcases gk with _|k3
   ·exact Yf HA.out (by simp [aoz.l1])
   have H:=HA.out;clear HA;simp only [aoz.l1] at H;by_cases c11:x13_3<a3
   ·rw [Ya c11] at H;have c11b0:=Zd c11;clear c11;obtain ⟨t216,A12,H⟩:=ob_ H
    (try dsimp only at H)
    by_cases c13:x12_3.length<17592186044416
    rotate_left
    ·rw [Yb c13] at H;exact Yf H (by simp)
    rw [Ya c13] at H;have LMc13:=Za c13;clear c13;obtain ⟨y217,hy217⟩: ∃y_:List Int,y_=(x12_3++ [t216]):=⟨_,rfl⟩
    first|rw [Zl, <-hy217] at H|rw [<-hy217] at H
    (try dsimp only at H)
    have Ny217:=Za hy217;clear hy217;have H':=Za H;clear H
    go_wp2_with (first|((with_reducible refine abz (f:=168) rfl ?_);refine gl_ (some 43) Tryz.func168 #[.int .i64 a0, .int .u32 a1, .int .i64 x11_2, .int .i64 x13_3] ?_;(with_reducible refine (aKz.calls k3 a0 a1 x11_2 x13_3 t216 _ A12.out).mono ?_);rintro e w' ⟨rfl,⟨nd,rfl⟩⟩;refine ⟨_,rfl,?_⟩)|((with_reducible refine anz (b:= .append) (xs:= #[.tmp 38, .tmp 44]) rfl ?_);at_builtin;refine Kd.bxz (Kd.int .i64) (w0:=w) w.heap.size rfl (.tmp 38) (.tmp 44) 57 3 (.int .i64 0) 8 rfl Tryz.underlying57 info3 rfl (by decide) (by omega) u12 x12_3 t216 [.int .i64 t216] (fun _=>True) (fun _=>False) rfl rfl ?aP (fun _ hk=>hk.elim) ?aF ?aO ?aB ?aS ?aL ?_;(case aP=>exact rfl);(case aB=>exact bl_);(case aF=>exact (fun _ _=>trivial));(case aO=>exact (xd_ HO_12.out));(case aS=>exact (aez bl_));(case aL=>have:=LMc13.out;omega);intro v218 w14 ho hb hg hat;rw [<-Ny217.out] at ho;have n_:=Zb (Za (Kd.cYz (ok:=(fun _=>True)) (sm_ HO_10) hg hat)) (Zb (Za (hb)) (Za (ho)));clear HO_10 HB HO_12;obtain ⟨HO_10,HB,HO219⟩:=n_;clear ho hb hg hat))
    go_roundg k3
    case measure=>have:=HJ4.out;have:=HK2.out;have:=HK3.out;omega
    case rel=>exact ⟨(y217),(wrap64 (x13_3+1)),sd_,H',⟨by have:=HJ4.out;have:=HK2.out;have:=HK3.out;omega⟩,⟨sm_ HO_10⟩,⟨xd_ HO219.out⟩,⟨bl_⟩⟩
   ·rw [Yb c11] at H;have c11b0:=Ze c11;clear c11;by_cases c15:x10_2.length<5864062014805
    rotate_left
    ·rw [Yb c15] at H;exact Yf H (by simp)
    rw [Ya c15] at H;have LMc15:=Za c15;clear c15;obtain ⟨y220,hy220⟩: ∃y_:List (List Int),y_=(x10_2++ [x12_3]):=⟨_,rfl⟩
    first|rw [Zl, <-hy220] at H|rw [<-hy220] at H
    (try dsimp only at H)
    have Ny220:=Za hy220;clear hy220;have H':=Za H;clear H;obtain ⟨Ao17,co17,eo17⟩:=Kd.aRz HO_12.out;subst eo17
    go_wp2_with (first|((with_reducible refine anz (b:= .append) (xs:= #[.tmp 46, .tmp 48]) rfl ?_);at_builtin;refine Kd.bLz (Kd.slice 3 (Kd.int .i64)) (w0:=w) w.heap.size rfl (.tmp 46) (.tmp 48) 68 57 (.slice none 0 0) 24 rfl Tryz.underlying68 info57 rfl (by decide) (by omega) u10 x10_2 x12_3 [.slice Ao17 x12_3.length co17] (fun _=>True) (fun k_=>some k_=(.slice Ao17 x12_3.length co17:Value).ownBlock) rfl rfl ?aP (fun k_ hk_=>((Kd.aJz (ok':=fun k_=>((fun _=>True)) k_/\some k_≠(u10:Value).ownBlock) (Kd.brz (HO_12.out) (Kd.bNz HO_10.out) (by decide)) (fun k_ hk=>⟨trivial,hk.2⟩))).1 k_ hk_.symm) ?aF ?aO ?aB ?aS ?aL ?_;(case aP=>exact Kd.M_row (Kd.aJz (Kd.ciz rfl (Kd.aJz (ok':=fun k_=>((fun _=>True)) k_/\some k_≠(u10:Value).ownBlock) (Kd.brz (HO_12.out) (Kd.bNz HO_10.out) (by decide)) (fun k_ hk=>⟨trivial,hk.2⟩))) (fun _ h_=>h_)));(case aB=>exact bl_);(case aF=>exact (fun _ _=>trivial));(case aO=>exact (sm_ HO_10));(case aS=>exact (aez bl_));(case aL=>have:=LMc15.out;omega);intro v221 w16 ho hb hg hat;rw [<-Ny220.out] at ho;have n_:=Zb (Za (hb)) (Za (ho));clear HB HO_10 HO_12;obtain ⟨HB,HO222⟩:=n_;clear ho hb hg hat))
    go_roundg k3
    case measure=>have:=HJ4.out;have:=HK2.out;have:=HK3.out;omega
    case rel=>exact ⟨(y220),(wrap64 (x11_2+1)),sd_,H',⟨by have:=HJ4.out;have:=HK2.out;have:=HK3.out;omega⟩,⟨xd_ HO222.out⟩,⟨bl_⟩⟩
end Go.Proofs.Xc
end
