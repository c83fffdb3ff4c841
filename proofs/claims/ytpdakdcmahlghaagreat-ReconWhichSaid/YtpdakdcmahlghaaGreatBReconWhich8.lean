-- Joined texts of this work (wip/tools/bundle.py).
import Derived.Test.YtpdakdcmahlghaaGreatBReconWhich7
set_option maxHeartbeats 8000000
set_option maxRecDepth 100000
set_option linter.unusedVariables false
set_option linter.unusedSimpArgs false
section
namespace Go.Proofs.Xc
open Go.RowKit Go.Proofs.Pw Go.Proofs.Pl Go.Proofs.Pm Tryz
attribute [local go_sem] a7z a8z bgz bhz aVz aWz a9z baz
def agz.clr (k:Nat) (w p:Int) (c at_:Nat) (row:List Int):Nat->Nat->List (List Int)->Option (List (List Int))
 |0,_,out=>some out
 | d + 1, i, out => if c < (out.getD i []).length then (if i = at_ then agz.clr k w p c at_ row d (i + 1) out else (if (out.getD i []).getD c 0 = 0 then agz.clr k w p c at_ row d (i + 1) out else
   (aJz.f k w p row ((out.getD i []).getD c 0)).bind fun s=>(aAz.f k (out.getD i []) s).bind fun t=>agz.clr k w p c at_ row d (i+1) (out.set i t))) else none
def agz.go (k:Nat) (w p:Int):Nat->Nat->List (List Int)->Nat->Option (List (List Int)×Int)
 |0,_,out,at_=>some (out,(at_:Int))
 | d + 1, c, out, at_ => if at_ < out.length then (aXz.f k out (at_ : Int) (c : Int)).bind fun q => (if q < 0 then agz.go k w p d (c + 1) out at_ else (if q < (out.length : Int) then (if c < (out.getD q.toNat []).length then
   (asz.f k w p ((out.getD q.toNat []).getD c 0)).bind fun iv=>(aJz.f k w p (out.getD q.toNat []) iv.1).bind fun row=>
    (agz.clr k w p c at_ row out.length 0 ((out.set q.toNat (out.getD at_ [])).set at_ row)).bind fun out'=>agz.go k w p d (c+1) out' (at_+1) else none) else none)) else some (out,(at_:Int))
def agz.f (k:Nat) (a0 a1:Int) (l2:List (List Int)) (a3:Int):Option (List (List Int)×Int):=
 if 0<l2.length then (if l2.length<=1000000 then (if 0<=a3 then (if a3<=1000000 then agz.go k a0 a1 a3.toNat 0 l2 0 else none) else none) else none) else none
theorem agz.e8z (k:Nat) (w p:Int) (c at_:Nat) (row:List Int): ∀(d i:Nat) (out:List (List Int)),LeO (agz.clr k w p c at_ row d i out) (agz.clr (k+1) w p c at_ row d i out)
 |0,_,_=>LeO.refl _
 |d+1,i,out=>by
  unfold agz.clr;exact LeO.ite (LeO.ite (agz.e8z k w p c at_ row d _ _) (LeO.ite (agz.e8z k w p c at_ row d _ _) (LeO.bind (aJz.mono _ _ _ _ _) (fun _=>LeO.bind (aAz.mono _ _ _) (fun _=>agz.e8z k w p c at_ row d _ _))))) (LeO.refl _)
theorem agz.go_mono (k:Nat) (w p:Int): ∀(d c:Nat) (out:List (List Int)) (at_:Nat),LeO (agz.go k w p d c out at_) (agz.go (k+1) w p d c out at_)
 |0,_,_,_=>LeO.refl _
 |d+1,c,out,at_=>by
  unfold agz.go;exact LeO.ite (LeO.bind (aXz.mono _ _ _ _) (fun _=>LeO.ite (agz.go_mono k w p d _ _ _) (LeO.ite (LeO.ite (LeO.bind (asz.mono _ _ _ _) (fun _=>LeO.bind (aJz.mono _ _ _ _ _) (fun _=>LeO.bind (agz.e8z k w p _ _ _ _ _ _) (fun _=>agz.go_mono k w p d _ _ _)))) (LeO.refl _)) (LeO.refl _)))) (LeO.refl _)
theorem agz.mono: ∀a0 a1 a2 a3 k,LeO (agz.f k a0 a1 a2 a3) (agz.f (k+1) a0 a1 a2 a3):=by
 intro a0 a1 a2 a3 k;unfold agz.f;exact LeO.ite (LeO.ite (LeO.ite (LeO.ite (agz.go_mono k _ _ _ _ _ _) (LeO.refl _)) (LeO.refl _)) (LeO.refl _)) (LeO.refl _)
theorem N_row {e t:Nat} {k:IntKind} {W:World} {base o n cap:Nat} {ok:Nat->Prop} {rows:List (List Int)} (h:Kd.N (dM e k) t W base ok (.slice (some ⟨o,0,none⟩) n cap) rows) (i:Nat) (row:List Int) (hr:rows[i]?=some row):
  ∃A c,W.cell? ⟨o,i,none⟩=some (.slice A row.length c)/\W.frozen? ⟨o,i,none⟩=false/\row.length<=c/\Kd.F (Kd.int k) W (fun q=>ok q/\q≠o) A row.length row:=by
 have hi:=(Zk hr).1;have hn:=(Kd.bpz h).1;obtain ⟨c,hcl,hK,hcc,hfr⟩:=Kd.N_elem h ([] :List Int) (i:Int) (by omega) (by omega);rw [Zu,Zm,hr] at hK;obtain ⟨A,cc,rfl,hl,hF⟩:=Kd.cNz hK;have h0:=hcc 0 _ rfl;have h1:=hfr 0;rw [Zu,show (dM e k).sz=1 from rfl,Nat.mul_one,Nat.add_zero] at h0 h1;exact ⟨A,cc,h0,h1,hl,hF⟩
theorem N_set {e t:Nat} {k:IntKind} {W:World} {base o n cap:Nat} {ok okp:Nat->Prop} {rows:List (List Int)} (h:Kd.N (dM e k) t W base ok (.slice (some ⟨o,0,none⟩) n cap) rows) (i:Nat) (row' row:List Int) (hr:rows[i]?=some row') {A:Option Addr} {c:Nat} (hl:row.length<=c) (hF:Kd.F (Kd.int k) W okp A row.length row) (hok: ∀q,okp q->ok q/\q≠o):
  Kd.N (dM e k) t (W.setCell ⟨o,i,none⟩ (.slice A row.length c)) base ok (.slice (some ⟨o,0,none⟩) n cap) (rows.set i row):=by
 have hi:=(Zk hr).1;have hn:=(Kd.bpz h).1;obtain ⟨A',c',hc, -,hl',hF'⟩:=N_row h i row' hr
 have h2:=(Kd.N_seg h (i:Int) (by omega) (by omega) (c:= [.slice A' row'.length c']) (seg:= [.slice A row.length c]) (j:=0) rfl (fun j u hu=>by
  cases j with
  |succ j=>simp at hu
  |zero=>
   obtain rfl:Value.slice A' row'.length c'=u:=by simpa using hu
   rw [Zu,show (dM e k).sz=1 from rfl,Nat.mul_one,Nat.add_zero]
   exact hc) (Zv _) (x':=row) (okp:=okp) (Kd.ebz hl hF) hok).1
 rw [Zu,show (dM e k).sz=1 from rfl,Nat.mul_one,Nat.add_zero] at h2;exact h2
theorem agz.calls (k:Nat) (a0 a1:Int) (p1:Nat->Prop) (A2:Option Addr) (c2:Nat) (l2:List (List Int)) (a3:Int) (r1:List (List Int)) (r2:Int) (w:World) (Q1:Kd.V (Kd.slice 3 (Kd.int .i64)) 57 w w.heap.size (fun k_=>p1 k_) (.slice A2 l2.length c2) l2) (h:agz.f k a0 a1 l2 a3=some (r1,r2)):
  Calls prog 99 #[.int .i64 a0, .int .u32 a1, .slice A2 l2.length c2, .int .i64 a3] w fun e w'=> ∃C0:Value,e= .returned (.tuple #[C0, .int .i64 r2])/\Kd.N (Kd.slice 3 (Kd.int .i64)) 57 w' w.heap.size (fun k_=>(p1 k_\/w.heap.size<=k_)) C0 r1/\Below w.heap.size w w':=by
 unfold agz.f at h;by_cases h0:0<l2.length
 case neg=>rw [Yb h0] at h;cases h
 rw [Ya h0] at h;by_cases h1:l2.length<=1000000
 case neg=>rw [Yb h1] at h;cases h
 rw [Ya h1] at h;by_cases h2:0<=a3
 case neg=>rw [Yb h2] at h;cases h
 rw [Ya h2] at h;by_cases h3:a3<=1000000
 case neg=>rw [Yb h3] at h;cases h
 rw [Ya h3] at h;obtain ⟨cols,rfl⟩:=Int.eq_ofNat_of_zero_le h2;rw [Zu] at h;obtain ⟨ok,hok⟩: ∃ok:Nat->Prop,ok=(fun k_=>(p1 k_\/w.heap.size<=k_)):=⟨_,rfl⟩;rw [<-hok];have i0:=Za (show∀q,w.heap.size<=q->ok q by rw [hok];exact fun q hq=> .inr hq);have o1:=Za (show Kd.F (dM 3 .i64) w (fun q=>ok q/\q<w.heap.size) A2 l2.length l2 from Kd.cdz (Kd.dVz (Kd.V_F Q1)) (fun q hq=>⟨by rw [hok];exact .inl hq.1,hq.2⟩));have HH:=Za h;obtain ⟨n,hn⟩: ∃n,l2.length=n:=⟨_,rfl⟩;have HN:=Za hn;rw [hn] at o1 h0 h1|-;clear Q1 h h2 hok hn;go_enter func99,ntmps99
 go_wp2_with (first|((with_reducible refine aTz (N:=18) rfl ?_);go_must (refine Kd.N_lit (dM 3 .i64) _ 57 ?hg (N':=18) ?hd (xs:=([] :List (List Int))) (inner:= []) (ok:=ok) (okp:=ok) ?hr ?hp (fun _ hk=>hk) (i0.o _ (Zv _)) (Zw _ _) (Zv _) (by simp) ?_;(case hd=>rfl);(case hg=>rfl);(case hr=>first|(go_simp;done)|(go_simp;rfl));(case hp=>exact (Reps.none _ _)));intro v1 w1 ho hb n1 z0;have G1:=Za ho;have L0:=Za hb;clear ho hb n1 z0;have N1:=Za (show Kd.F (dM 3 .i64) w1 (fun q=>ok q/\some q≠v1.ownBlock) A2 n l2 from Kd.cdz (Kd.csz o1.o (fun q hq hlt=>L0.o.block q hq.2)) (fun q hq=>⟨hq.1,fun e=>by have:=Kd.dfz G1.o q e.symm;have:=hq.2;omega⟩)))|((with_reducible refine amz (b:= .append) (xs:= #[.tmp 18, .tmp 19]) rfl ?_);go_must (at_builtin;refine Kd.dJz (dM 3 .i64) (w0:=w) w.heap.size rfl (.tmp 18) (.tmp 19) 68 57 (.slice none 0 0) 24 rfl underlying68 kr_ rfl (by decide) (by decide) v1 [] l2 _ _ _ ok (fun q=>ok q/\some q≠v1.ownBlock) rfl rfl G1.o N1.o (fun _ hk=>hk) (fun q hq=>i0.o q (Zt L0.o.size hq)) L0.o L0.o.size (by simp;omega) ?_);intro v2 w2 ho hb n1 F1;have G0:=Za ho;have R1:=Za hb;clear ho hb n1 F1))
 obtain ⟨o,cap,rfl, -, -, -⟩:=Kd.N_form G0.o (by rw [List.nil_append,HN.o];exact h0);rw [List.nil_append,HN.o] at G0|-;have g1:=Za (Kd.dfz G0.o o (by simp [Value.ownBlock]));clear o1 G1 L0 N1;have o2:=Za (show 1<=n/\n<=1000000/\cols<=1000000 from ⟨h0,h1,by omega⟩)
 go_loopw [11,12] (fun av cv wr=> ∃(at_ c:Nat) (out:List (List Int)),c<=cols/\at_<=c/\av= .int .i64 (at_:Int)/\cv= .int .i64 (c:Int)/\Aside0 (out.length=n)/\Aside0 (Kd.N (dM 3 .i64) 57 wr w.heap.size ok (.slice (some ⟨o,0,none⟩) n cap) out)/\Aside0 (Below w.heap.size w wr)/\Aside0 (agz.go k a0 a1 (cols - c) c out at_=some (r1,r2))) (fun _ cv _=>cols - (intOf cv).toNat)
 case atStart=>exact ⟨0,0,l2,Nat.zero_le _,Nat.zero_le _,rfl,rfl,HN,G0,R1,⟨by rw [Nat.sub_zero];exact HH.o⟩⟩
 clear G0 R1 HH;obtain ⟨wr,rfl⟩: ∃w',w'=wr:=⟨_,rfl⟩;obtain ⟨at_,c,out,hc,hac,rfl,rfl,g0,HO,HB,HG⟩:=hrel
 have hfin:(cols - c=0\/ ¬at_<n)->r1=out/\r2=(at_:Int):=by
  intro hh;have h:=HG.o;rcases hh with hh|hh
  ·rw [hh,agz.go] at h;simp only [Zx,Zy] at h;exact ⟨h.1.symm,h.2.symm⟩
  ·cases hd:cols - c with
   |zero=>
    rw [hd,agz.go] at h;simp only [Zx,Zy] at h;exact ⟨h.1.symm,h.2.symm⟩
   |succ d=>
    rw [hd,agz.go,Yb (by rw [g0.o];exact hh)] at h;simp only [Zx,Zy] at h;exact ⟨h.1.symm,h.2.symm⟩
 have f0:=Za hfin;clear hfin;by_cases hlt:c<cols
 ·by_cases hat:at_<n
  ·obtain ⟨d,hd⟩: ∃d,cols - c=d+1:=⟨cols - c - 1,by omega⟩;have h:=HG.o;rw [hd,agz.go,Ya (by rw [g0.o];exact hat)] at h;obtain ⟨q,hpv,h⟩:=Option.bind_eq_some_iff.1 h;have HD:=Za (show cols - (c+1)=d by omega);have hrd:=Kd.bpz HO.o;have z1:=Za (aXz.calls k (some ⟨o,0,none⟩) cap out (at_:Int) (c:Int) q wr hrd.2.2 (by rw [g0.o];exact hrd.2.1) hpv);rw [g0.o] at z1;have HH:=Za h;clear hd h hpv hrd HG;have t1:(c:Int)<(cols:Int):=by omega
   have t2:(at_:Int)<(n:Int):=by omega
   go_wp2_with fail
   refine z1.o.mono ?_;rintro e w3 ⟨rfl,m3,rfl⟩;have E0:=Za (Kd.N_drewN HO.o m3);have S0:=Za (a2z HB.o m3);generalize wr.drewN m3=w3 at E0 S0|-;clear HO HB z1;by_cases C1:q<0
   ·have h:=HH.o;rw [Ya C1] at h;have c1:=Za (show agz.go k a0 a1 (cols - (c+1)) (c+1) out at_=some (r1,r2) by rw [HD.o];exact h);clear h;go_wp2;go_roundw
    case rel=>exact ⟨at_,c+1,out,by omega,by omega,rfl,by go_num,g0,E0,S0,c1⟩
    case measure=>simp [intOf];omega
   ·have h:=HH.o;rw [Yb C1] at h;by_cases I1:q<(out.length:Int)
    case neg=>rw [Yb I1] at h;cases h
    rw [Ya I1] at h;obtain ⟨qn,rfl⟩:=Int.eq_ofNat_of_zero_le (show 0<=q by omega);rw [Zu] at h;have hqn':qn<n:=by have:=g0.o;omega
    obtain ⟨d0,hrq⟩: ∃x,out[qn]?=some x:=⟨_,Zf (by have:=g0.o;omega)⟩;obtain ⟨b0,hra⟩: ∃x,out[at_]?=some x:=⟨_,Zf (by have:=g0.o;omega)⟩;have e1:out.getD qn [] =d0:=by rw [Zm,hrq];rfl
    have e2:out.getD at_ [] =b0:=by rw [Zm,hra];rfl
    rw [e1,e2] at h;by_cases hcl:c<d0.length
    case neg=>rw [Yb hcl] at h;cases h
    rw [Ya hcl] at h;obtain ⟨x,hx⟩: ∃x,d0[c]?=some x:=⟨_,Zf hcl⟩;have e3:d0.getD c 0=x:=by rw [Zm,hx];rfl
    rw [e3] at h;obtain ⟨⟨M1,W1⟩,O1,h⟩:=Option.bind_eq_some_iff.1 h;obtain ⟨row,hsc,h⟩:=Option.bind_eq_some_iff.1 h;obtain ⟨e0,D0,h⟩:=Option.bind_eq_some_iff.1 h;have L1:=Za D0;have c1:=Za (show agz.go k a0 a1 (cols - (c+1)) (c+1) e0 (at_+1)=some (r1,r2) by rw [HD.o];exact h);have X0:=Za hrq;have O0:=Za hra;have HX:=Za hx;have V0:=Za hsc;obtain ⟨Aq,cq,hcq,y0,hlq,F0⟩:=N_row E0.o qn d0 hrq;obtain ⟨f2,rfl,hcx⟩:=cKz (Kd.F_now F0) c x hx;have S1:=Za (asz.calls k a0 a1 x M1 W1 w3 O1);have J0:=Za (show∃L,L=d0.length from ⟨_,rfl⟩);have q1:(0:Int)<=(qn:Int):=by omega
    have q2:(qn:Int)<(n:Int):=by omega
    have q3:(0:Int)<=(c:Int):=by omega
    have q4:(c:Int)<(d0.length:Int):=by omega
    have q5:(0:Int)<=(at_:Int):=by omega
    clear h hrq hra e1 e2 hcl hx e3 O1 hsc D0 I1 C1 F0
    go_wp2_with fail
    refine S1.o.mono ?_;rintro e w4 ⟨rfl,m4,rfl⟩;have Q0:=Za (Kd.N_drewN E0.o m4);have N0:=Za (a2z S0.o m4);clear hcq y0 hcx E0 S0 S1;generalize w3.drewN m4=w4 at Q0 N0|-;obtain ⟨Aq',cq',hcq,y0,hlq',F0⟩:=N_row Q0.o qn d0 X0.o;have K1:=Za (aJz.calls k a0 a1 Aq' cq' d0 M1 row w4 (Kd.F_now F0) hlq' V0.o);clear hlq hlq' F0 q4
    go_wp2_with fail
    refine K1.o.mono ?_;rintro e w5 ⟨v5,rfl,H0,Z0⟩;obtain ⟨va,vc,rfl⟩:=Kd.aQz H0;have P0:=Za (Kd.etz Q0.o Z0);have J1:=Za (N0.o.trans (Z0.mono N0.o.size));have hlr:=(Kd.aHz H0).2.1;have hor:o<w4.heap.size:=Kd.N_lt Q0.o o (by simp [Value.ownBlock])
    have M0:=Za (show Kd.F (Kd.int .i64) w5 (fun q=>ok q/\q≠o) va row.length row from Kd.cdz (Kd.R_F (Kd.b5z rfl H0)) (fun q hq=>by
     have h1:=Kd.cbz H0 q hq.symm;have h2:=N0.o.size
     exact ⟨i0.o q (by omega),by omega⟩))
    clear hcq y0 H0 Z0 K1;obtain ⟨n2,k2,hcq,y0, -, -⟩:=N_row P0.o qn d0 X0.o;obtain ⟨Aa,ca,a2,hfa,hla,U1⟩:=N_row P0.o at_ b0 O0.o;have E1:=Za (N_set P0.o qn d0 b0 X0.o hla U1 (fun q h=>h))
    have l0:=Za (show (out.set qn b0)[at_]?=some b0 by
     by_cases e:qn=at_
     ·subst e;rw [List.getElem?_set_self (Zk O0.o).1]
     ·rw [List.getElem?_set_ne e];exact O0.o)
    obtain ⟨j2,g2,s1,k1, -, -⟩:=N_row E1.o at_ b0 l0.o;have n0:=Za (Kd.F_far M0.o (p:=⟨o,qn,none⟩) (fun q hq=>hq.2) (.slice Aa b0.length ca));have T0:=Za (N_set E1.o at_ b0 row l0.o hlr n0.o (fun q h=>h));have j0:=Za (Kd.F_far n0.o (p:=⟨o,at_,none⟩) (fun q hq=>hq.2) (.slice va row.length vc));have m1:=Za (cWz (cWz J1.o g1.o qn (.slice Aa b0.length ca)) g1.o at_ (.slice va row.length vc));have k0:=Za (show ((out.set qn b0).set at_ row).length=n by rw [List.length_set,List.length_set];exact g0.o);clear hla U1 P0 J1 M0 E1 n0 l0;go_wp2;generalize (w5.setCell ⟨o,qn,none⟩ (.slice Aa b0.length ca)).setCell ⟨o,at_,none⟩ (.slice va row.length vc)=w7 at T0 j0 m1|-
    have o0:=Za (show agz.clr k a0 a1 c at_ row (n - 0) 0 ((out.set qn b0).set at_ row)=some e0 by
     have h:=L1.o;rw [g0.o] at h
     exact h)
    generalize (out.set qn b0).set at_ row=out7 at T0 k0 o0;clear L1 g0 X0 O0 HX V0 J0 q1 q2 hqn' f0 HH hcq y0 a2 hfa s1 k1;obtain ⟨L,hL⟩: ∃L,row.length=L:=⟨_,rfl⟩;have J0:=Za hL;rw [hL] at j0|-;have hlr':L<=vc:=by omega
    clear hL hlr;have Z1:=Za hlr';clear hlr'
    go_loopw [17] (fun iv wr=> ∃(i:Nat) (oi:List (List Int)),i<=n/\iv= .int .i64 (i:Int)/\Aside0 (oi.length=n)/\Aside0 (Kd.N (dM 3 .i64) 57 wr w.heap.size ok (.slice (some ⟨o,0,none⟩) n cap) oi)/\Aside0 (Below w.heap.size w wr)/\Aside0 (Kd.F (Kd.int .i64) wr (fun q=>ok q/\q≠o) va L row)/\Aside0 (agz.clr k a0 a1 c at_ row (n - i) i oi=some e0)) (fun iv _=>n - (intOf iv).toNat)
    case atStart=>exact ⟨0,out7,Nat.zero_le _,rfl,k0,T0,m1,j0,o0⟩
    clear T0 j0 m1 k0 o0;obtain ⟨w8,rfl⟩: ∃w',w'=wr:=⟨_,rfl⟩;obtain ⟨i,oi,hi,rfl,I0,t0,v0,K0,B1⟩:=hrel;by_cases hin:i<n
    ·obtain ⟨d2,W0⟩: ∃d,n - i=d+1:=⟨n - i - 1,by omega⟩;have H1:=Za (show n - (i+1)=d2 by omega);have h:=B1.o;obtain ⟨c0,u0⟩: ∃x,oi[i]?=some x:=⟨_,Zf (by have:=I0.o;omega)⟩;have e1:oi.getD i [] =c0:=by rw [Zm,u0];rfl
     rw [W0,agz.clr,e1] at h;by_cases hcl:c<c0.length
     case neg=>rw [Yb hcl] at h;cases h
     rw [Ya hcl] at h;obtain ⟨x,hx⟩: ∃x,c0[c]?=some x:=⟨_,Zf hcl⟩;have e3:c0.getD c 0=x:=by rw [Zm,hx];rfl
     rw [e3] at h;have i1:(0:Int)<=(i:Int):=by omega
     have i2:(i:Int)<(n:Int):=by omega
     by_cases hia:i=at_
     ·rw [Ya hia] at h;have B0:=Za (show agz.clr k a0 a1 c at_ row (n - (i+1)) (i+1) oi=some e0 by rw [H1.o];exact h);have b1:((i:Int) !=(at_:Int))=false:=by simp;omega
      clear h W0 u0 e1 hcl hx e3 hia;go_wp2;go_roundw
      case rel=>exact ⟨i+1,oi,by omega,by go_num,I0,t0,v0,K0,B0⟩
      case measure=>simp [intOf];omega
     ·rw [Yb hia] at h;have b1:((i:Int) !=(at_:Int))=true:=by simp;omega
      obtain ⟨Ai,ci,hci,hfi,l1,U0⟩:=N_row t0.o i c0 u0;obtain ⟨r0,rfl,hcx⟩:=cKz (Kd.F_now U0) c x hx;have q4:(c:Int)<(c0.length:Int):=by omega
      by_cases p0:x=0
      ·rw [Ya p0] at h;have B0:=Za (show agz.clr k a0 a1 c at_ row (n - (i+1)) (i+1) oi=some e0 by rw [H1.o];exact h);have b2:(x !=0)=false:=by simp [p0]
       clear h W0 u0 e1 hcl hx e3 hia p0 l1 U0;go_wp2;go_roundw
       case rel=>exact ⟨i+1,oi,by omega,by go_num,I0,t0,v0,K0,B0⟩
       case measure=>simp [intOf];omega
      ·rw [Yb p0] at h;have b2:(x !=0)=true:=by simpa using p0
       obtain ⟨s,hs,h⟩:=Option.bind_eq_some_iff.1 h;obtain ⟨t,ht,h⟩:=Option.bind_eq_some_iff.1 h;have B0:=Za (show agz.clr k a0 a1 c at_ row (n - (i+1)) (i+1) (oi.set i t)=some e0 by rw [H1.o];exact h);have T1:=Kd.F_now K0.o;have hsc:=aJz.calls k a0 a1 va vc row x s w8.drew (by rw [J0.o];exact Kd.bEz T1 1) (by rw [J0.o];exact Z1.o) hs;rw [J0.o] at hsc;have V0:=Za hsc;have HAD:=Za (show∀(x1:Option Addr) (x2:Nat) (w9:World) (r1:Kd.R (Kd.int .i64) 3 w9 w8.drew.heap.size (fun _=>True) (.slice x1 s.length x2) s) (b1:Below w8.drew.heap.size w8.drew w9),Calls prog 148 #[.slice (some r0) c0.length ci, .slice x1 s.length x2] w9 fun e w'=> ∃C0:Value,e= .returned (C0)/\Kd.R (Kd.int .i64) 3 w' w9.heap.size (fun _=>True) C0 t/\Below w9.heap.size w9 w' from fun x1 x2 w9 r1 b1=>aAz.calls k (some r0) ci c0 x1 x2 s t w9 (Kd.aMz (Kd.bEz (Kd.F_now U0) 1) b1) l1 (Kd.aHz r1).2.2 (Kd.aHz r1).2.1 ht)
       have X1:=Za u0;have hol:o<w8.heap.size:=Kd.N_lt t0.o o (by simp [Value.ownBlock]);have P1:=Za hol;clear h W0 u0 e1 hcl hx e3 hia p0 l1 U0 T1 hsc hs ht hol
       go_wp2_with fail
       refine ccz (n:=20) (S:=fun w'=>w'.cell? ⟨o,i,none⟩=some (.slice (some r0) c0.length ci)/\w'.cell? (r0.add c)=some (.int .i64 x)) (ds:= [19]) (bA 20 0) kr_ rfl rfl ⟨hci,hcx⟩ (fun hHeld=> ?_);refine pu_ 0 89 1 ?_;refine pu_ 1 90 3 ?_;refine pu_ 2 91 7 ?_;refine pu_ 3 92 15 ?_;refine pu_ 4 93 31 ?_;refine pu_ 6 95 95 ?_;refine pu_ 7 96 223 ?_;refine pu_ 8 97 479 ?_;refine pu_ 9 98 991 ?_;refine pu_ 10 99 2015 ?_;refine pu_ 11 100 4063 ?_;refine pu_ 13 102 12255 ?_;refine tk_ 5 94 12287 hHeld ?_;refine tk_ 12 101 16383 hHeld ?_;refine pu_ 14 103 32767 ?_;refine tk_ 15 104 65535 hHeld ?_;refine one_ (i:=16) (N:=some 105) (bA 20 131071) rfl rfl kr_ (by decide) (fun K hK=> ?_);refine goes_ func147 kr_ rfl #[.int .i64 a0, .int .u32 a1, .slice va L vc, .int .i64 x] (by rfl) rfl rfl am_ ?_
       with_reducible refine (V0.o).mono ?_
       rintro e w9 ⟨v9,rfl,r1,b9⟩;refine ⟨_,rfl,?_⟩;obtain ⟨x1,x2,rfl⟩:=Kd.aQz r1;refine hK.out _ _ ⟨a3z b9 hci,a3z b9 hcx⟩ (fun hHeld=> ?_);clear hK K;refine norm_ (a':= ?_) ?_ ?_;rotate_left
       ·show Act.put _ (some 105) _=_;simp only [Act.put,Zg,Zh,Zi,i64_w,i32_w];rfl
       refine one_ (i:=17) (N:=some 106) (bA 20 262143) rfl rfl kr_ (by decide) (fun K hK=> ?_);refine goes_ func148 kr_ rfl #[.slice (some r0) c0.length ci, .slice x1 s.length x2] (by rfl) rfl rfl am_ ?_
       with_reducible refine (HAD.o x1 x2 w9 r1 b9).mono ?_
       rintro e R0 ⟨m2,rfl,r2,b10⟩;refine ⟨_,rfl,?_⟩;obtain ⟨y1,y2,rfl⟩:=Kd.aQz r2;have q0:=Za (show Below w8.heap.size w8 R0 from (show Below w8.heap.size w8 w9 from ⟨b9.os,b9.tape,b9.output,b9.size,b9.block⟩).trans (b10.mono b9.size));have R2:=Za r2;have A0:R0.cell? ⟨o,i,none⟩=some (.slice (some r0) c0.length ci):=a3z q0.o hci;have A1:R0.frozen? ⟨o,i,none⟩=false:=by rw [q0.o.frozen (p:=⟨o,i,none⟩) P1.o];exact hfi
       have Y1:=Za (show w8.heap.size<=w9.heap.size from b9.size);refine hK.out _ _ ⟨A0,a3z q0.o hcx⟩ (fun hHeld=> ?_);clear hK K;refine norm_ (a':= ?_) ?_ ?_;rotate_left
       ·show Act.put _ (some 106) _=_;simp only [Act.put,Zg,Zh,Zi,i64_w,i32_w];rfl
       refine pu_ 18 107 524287 ?_;refine last_ (i:=19) (N:=none) (bA 20 1048575) rfl rfl kr_ (by decide) (fun K hK=> ?_);refine skip_ (w1:= ?_) (by rfl) rfl ?_ ?_;rotate_left
       ·go_simp;rfl
       refine hK.out _ _ ?_;clear hK K;refine done_ kr_ ?_;have d1:=Za (Kd.etz t0.o q0.o);have f1:=Za (Kd.cVz K0.o q0.o)
       have V1:=Za (show Kd.F (Kd.int .i64) R0 (fun q=>ok q/\q≠o) y1 t.length t from Kd.cdz (Kd.R_F (Kd.b5z rfl R2.o)) (fun q hq=>by
        have h1:=Kd.cbz R2.o q hq.symm;have h2:=v0.o.size;have h3:=Y1.o;have h4:=P1.o
        exact ⟨i0.o q (by omega),by omega⟩))
       have D1:=Za (N_set d1.o i c0 t X1.o (Kd.aHz R2.o).2.1 V1.o (fun q h=>h));have j1:=Za (Kd.F_far f1.o (p:=⟨o,i,none⟩) (fun q hq=>hq.2) (.slice y1 t.length y2));have u1:=Za (cWz (v0.o.trans (q0.o.mono v0.o.size)) g1.o i (.slice y1 t.length y2));have Y0:=Za (show (oi.set i t).length=n by rw [List.length_set];exact I0.o);clear hHeld hci hcx A0 hfi A1;go_wp2;go_roundw
       case rel=>exact ⟨i+1,oi.set i t,by omega,by go_num,Y0,D1,u1,j1,B0⟩
       case measure=>simp [intOf];omega
    ·obtain rfl:i=n:=by omega
     have h:=B1.o;rw [Nat.sub_self,agz.clr] at h;obtain rfl:=Zn h;clear h B1 K0;go_wp2;go_roundw
     case rel=>exact ⟨at_+1,c+1,oi,by omega,by omega,by go_num,by go_num,I0,t0,v0,c1⟩
     case measure=>simp [intOf];omega
  ·obtain ⟨rfl,rfl⟩:=f0.o (.inr hat);clear f0 HG;go_wp2;go_ret2;exact ⟨_,rfl,HO.o,HB.o⟩
 ·obtain ⟨rfl,rfl⟩:=f0.o (.inl (by omega));clear f0 HG;go_wp2;go_ret2;exact ⟨_,rfl,HO.o,HB.o⟩
mutual
def ahz.j0:Nat->Int->Int->List (List Int)->Bool->Option ((List (List Int))×Int)
 |0,_,_,_,_=>none
 |k+1,x0,x1,x2,x29=>if x29=true then (some (([] :List (List Int)),1)) else ((aiz.f k (x2.length:Int)).bind fun t186=>(ahz.l0 k x0 x1 x2 (x2.length:Int) t186 ([] :List (List Int)) 0))
def ahz.l0:Nat->Int->Int->List (List Int)->Int->List (List Int)->List (List Int)->Int->Option ((List (List Int))×Int)
 |0,_,_,_,_,_,_,_=>none
 |k+1,x0,x1,x2,x8,x9,x10,x11=>if x11<x8 then ((some (([] :List Int):List Int)).bind fun y189=>(if 0<=x11 then (if x11<(x2.length:Int) then (if y189.length+(rd_L4 x2 x11).length<17592186044416 then ((some (y189++(rd_L4 x2 x11):List Int)).bind fun y193=>(if x11<(x9.length:Int) then (if y193.length+(rd_L4 x9 x11).length<17592186044416 then (if x10.length<5864062014805 then (ahz.l0 k x0 x1 x2 x8 x9 (x10++ [(y193++(rd_L4 x9 x11))]) (wrap64 (x11+1))) else (none)) else (none)) else (none))) else (none)) else (none)) else (none))) else ((agz.f k x0 x1 x10 x8).bind fun bt203=>(if bt203.2<x8 then (some (([] :List (List Int)),2)) else (ahz.l1 k x8 bt203.1 ([] :List (List Int)) 0)))
def ahz.l1:Nat->Int->List (List Int)->List (List Int)->Int->Option ((List (List Int))×Int)
 |0,_,_,_,_=>none
 |k+1,x8,x13,x15,x16=>if x16<x8 then (if 0<=x16 then (if x16<(x13.length:Int) then (if 0<=x8 then (if x8<=((rd_L4 x13 x16).length:Int) then (if x15.length<5864062014805 then (ahz.l1 k x8 x13 (x15++ [((rd_L4 x13 x16).drop (x8:Int).toNat)]) (wrap64 (x16+1))) else (none)) else (none)) else (none)) else (none)) else (none)) else (some (x15,0))
end
def ahz.f (k:Nat) (a0 a1:Int) (l2:List (List Int)):Option ((List (List Int))×Int):=(aez.f k a0 l2).bind fun t184=>(if t184=true then (if 0<(l2.length:Int) then (ahz.j0 k a0 a1 l2 ((l2.length:Int) !=((rd_L4 l2 0).length:Int))) else (none)) else (ahz.j0 k a0 a1 l2 true))
theorem ahz.a6z: ∀k,(∀y0 y1 y2 y3,LeO (ahz.j0 k y0 y1 y2 y3) (ahz.j0 (k+1) y0 y1 y2 y3))/\(∀y0 y1 y2 y3 y4 y5 y6,LeO (ahz.l0 k y0 y1 y2 y3 y4 y5 y6) (ahz.l0 (k+1) y0 y1 y2 y3 y4 y5 y6))/\(∀y0 y1 y2 y3,LeO (ahz.l1 k y0 y1 y2 y3) (ahz.l1 (k+1) y0 y1 y2 y3))
 |0=>⟨fun _ _ _ _ r h=>by simp [ahz.j0] at h,fun _ _ _ _ _ _ _ r h=>by simp [ahz.l0] at h,fun _ _ _ _ r h=>by simp [ahz.l1] at h⟩
 |k+1=>by
  obtain ⟨a0,c0,b0⟩:=ahz.a6z k;refine ⟨?_,?_,?_⟩
  ·intro y0 y1 y2 y3;unfold ahz.j0
   repeat' with_reducible first|apply a0|apply c0|apply b0|apply aiz.mono|apply aez.mono|apply agz.mono|apply Yg|apply Yh|apply Yi|refine Yj ?_ fun _=>?_
  ·intro y0 y1 y2 y3 y4 y5 y6;unfold ahz.l0
   repeat' with_reducible first|apply a0|apply c0|apply b0|apply aiz.mono|apply aez.mono|apply agz.mono|apply Yg|apply Yh|apply Yi|refine Yj ?_ fun _=>?_
  ·intro y0 y1 y2 y3;unfold ahz.l1
   repeat' with_reducible first|apply a0|apply c0|apply b0|apply aiz.mono|apply aez.mono|apply agz.mono|apply Yg|apply Yh|apply Yi|refine Yj ?_ fun _=>?_
theorem ahz.mono: ∀a0 a1 a2 k,LeO (ahz.f k a0 a1 a2) (ahz.f (k+1) a0 a1 a2):=by
 intro a0 a1 a2 k;obtain ⟨b0,d0,c0⟩:=ahz.a6z k;unfold ahz.f
 repeat' with_reducible first|apply b0|apply d0|apply c0|apply aiz.mono|apply aez.mono|apply agz.mono|apply Yg|apply Yh|apply Yi|refine Yj ?_ fun _=>?_
theorem ahz.calls (k:Nat) (a0 a1:Int) (A2:Option Addr) (c2:Nat) (l2 r1:List (List Int)) (r2:Int) (w:World) (C3:Kd.C (Kd.slice 3 (Kd.int .i64)) w A2 l2.length l2) (E3:l2.length<=c2) (h:ahz.f k a0 a1 l2=some (r1,r2)):
  Calls prog 64 #[.int .i64 a0, .int .u32 a1, .slice A2 l2.length c2] w fun e w'=> ∃B3:Value,e= .returned (.tuple #[B3, .int .i64 r2])/\Kd.N (Kd.slice 3 (Kd.int .i64)) 57 w' w.heap.size (fun k_=>(w.heap.size<=k_)) B3 r1/\Below w.heap.size w w':=by
 have B2:=Za C3;have t3:=Za E3;clear C3 E3;have HB:=Za (Zw w.heap.size w);have H:=h;clear h;unfold ahz.f at H;have U2:=Za H;clear H;go_enter func64,ntmps64
 go_upto_region 1 with (fail)
 go_cut [29] (fun Z3 wc=> ∃(kq:Nat) (U0:Bool),Z3= .bool U0/\Aside0 (ahz.j0 kq a0 a1 l2 U0=some (r1,r2))/\Aside0 (kq<=k)/\Aside0 (Below w.heap.size w wc))
 case first=>
  have H:=U2.o;clear U2;obtain ⟨n3,A5,H⟩:=ob_ H
  (try dsimp only at H)
  by_cases c6:n3=true
  rotate_left
  ·replace c6:=Zr c6;subst c6;rw [Yb (show¬(false=true) by decide)] at H;have H':=Za H;clear H
   go_wp2_with (first|((with_reducible refine aaz (f:=98) rfl ?_);refine gl_ (some 19) func98 #[.int .i64 a0, .slice A2 l2.length c2] ?_;(with_reducible refine (aez.calls k a0 _ _ l2 false _ (xd_ (Kd.aMz B2.o HB.o)) (t3.o) A5.o).mono ?_);rintro e w' ⟨rfl,⟨nd,rfl⟩⟩;refine ⟨_,rfl,?_⟩))
   go_meet
   case rel=>exact ⟨_,(true),sd_,H',⟨by first|omega|exact Zv _⟩,⟨bl_⟩⟩
  subst c6;rw [Ya rfl] at H;by_cases c7:0<(l2.length:Int)
  ·rw [Ya c7] at H;have U3:=Zd c7;have X3:decide (0<l2.length)=true:=Zd (by omega);clear c7;have H':=Za H;clear H
   go_wp2_with (first|((with_reducible refine aaz (f:=98) rfl ?_);refine gl_ (some 19) func98 #[.int .i64 a0, .slice A2 l2.length c2] ?_;(with_reducible refine (aez.calls k a0 _ _ l2 true _ (xd_ (Kd.aMz B2.o HB.o)) (t3.o) A5.o).mono ?_);rintro e w' ⟨rfl,⟨nd,rfl⟩⟩;refine ⟨_,rfl,?_⟩;have K1:0<=(0:Int):=(by omega);have Z1:0<(l2.length:Int):=Zc as_;obtain ⟨_,Q2,N2,S2,i0,V0,b1⟩:=at_L4 B2.o 0 K1 Z1;cases S2;have v3:(0<l2.length)=True:=Zz (by omega);(try rw [show ((0:Int)).toNat=0 from rfl] at i0);(try rw [Addr.add_zero'] at i0);replace i0:=(HB.o.cell (Zj w _ i0)).trans i0;have z2:=Za b1;have C2:=Za V0;clear b1 V0;replace K1:=Zz K1;replace Z1:=Zz Z1))
   go_meet
   case rel=>exact ⟨_,(((l2.length:Int) !=((rd_L4 l2 0).length:Int))),sd_,H',⟨by first|omega|exact Zv _⟩,⟨bl_⟩⟩
  ·rw [Yb c7] at H;exact Yf H (by simp)
 case rest=>
  clear U2;obtain ⟨kq,U0,rfl,HA,G2,HB⟩:=hcut;rcases kq with _|d3
  ·exact Yf HA.o (by simp [ahz.j0])
  have H:=HA.o;clear HA;simp only [ahz.j0] at H;by_cases c8:U0=true
  ·subst c8;rw [Ya rfl] at H;simp only [Zx,Zy] at H;obtain ⟨rfl,rfl⟩:=H;go_wp2;go_ret2;exact ⟨_,er_,nl_,bl_⟩
  ·replace c8:=Zr c8;subst c8;rw [Yb (show¬(false=true) by decide)] at H;obtain ⟨n0,A9,H⟩:=ob_ H
   (try dsimp only at H)
   have H':=Za H;clear H
   go_wp2_with (first|((with_reducible refine aaz (f:=62) rfl ?_);refine gl_ (some 33) func62 #[.int .i64 (l2.length:Int)] ?_;(with_reducible refine (aiz.calls d3 (l2.length:Int) n0 _ A9.o).mono ?_);rintro e h4 ⟨J0,rfl,d1,hb⟩;refine ⟨_,rfl,?_⟩;have n_:=Zb (Za (Kd.bXz (Kd.b2z (ok':=fun k_=>(w.heap.size<=k_)) (Kd.S_N (Kd.bDz d1)) (fun k_ O1=>(Zt (adz bl_) O1.2.1))) (adz bl_))) (hs_ HB hb);clear HB;obtain ⟨p2,HB⟩:=n_;clear hb d1))
   go_loopg [10,11] d3 (fun kq F3 S3 w'=> ∃(k0:List (List Int)) (e0:Int),S3= .int .i64 e0/\Aside0 (ahz.l0 kq a0 a1 l2 (l2.length:Int) n0 k0 e0=some (r1,r2))/\Aside0 (kq<=d3)/\Aside0 (Kd.N (Kd.slice 3 (Kd.int .i64)) 57 w' w.heap.size (fun k_=>(w.heap.size<=k_)/\some k_≠(F3:Value).ownBlock) J0 n0)/\Aside0 (Kd.N (Kd.slice 3 (Kd.int .i64)) 57 w' w.heap.size (fun k_=>(w.heap.size<=k_)/\some k_≠(J0:Value).ownBlock) F3 k0)/\Aside0 (Below w.heap.size w w'))
   case atStart=>exact ⟨(([] :List (List Int))),(0),sd_,H',⟨Zv _⟩,⟨nm_ p2⟩,⟨nl_⟩,⟨bl_⟩⟩
   clear H';obtain ⟨k0,e0,rfl,HA,J2,c0,b0,HB⟩:=hrel;rcases gk with _|k2
   ·exact Yf HA.o (by simp [ahz.l0])
   have H:=HA.o;clear HA;simp only [ahz.l0] at H;by_cases b2:e0<(l2.length:Int)
   ·rw [Ya b2] at H;have B1:=Zd b2;clear b2;obtain ⟨s2,Z0⟩: ∃y_:List Int,y_=(([] :List Int)):=⟨_,rfl⟩
    first|rw [Zl, <-Z0] at H|rw [<-Z0] at H
    (try dsimp only at H)
    have I1:=Za Z0;clear Z0;obtain ⟨L3,H⟩:=ih_ H;obtain ⟨J3,H⟩:=ih_ H;obtain ⟨q2,H⟩:=ij_ H;obtain ⟨u2,M0⟩: ∃y_:List Int,y_=(s2++(rd_L4 l2 e0)):=⟨_,rfl⟩
    first|rw [Zl, <-M0] at H|rw [<-M0] at H
    (try dsimp only at H)
    have o2:=Za M0;clear M0;obtain ⟨K3,H⟩:=ih_ H;obtain ⟨y2,H⟩:=ij_ H;obtain ⟨k1,W0⟩: ∃y_:List Int,y_=(u2++(rd_L4 n0 e0)):=⟨_,rfl⟩
    first|rw [Zl, <-W0] at H|rw [<-W0] at H
    (try dsimp only at H)
    have w2:=Za W0;clear W0;obtain ⟨n2,H⟩:=ij_ H;obtain ⟨i3,S0⟩: ∃y_:List (List Int),y_=(k0++ [k1]):=⟨_,rfl⟩
    first|rw [Zl, <-S0] at H|rw [<-S0] at H
    (try dsimp only at H)
    have j2:=Za S0;clear S0;have H':=Za H;clear H
    go_wp2_with (first|((with_reducible refine aTz (N:=39) rfl ?_);(try (refine aYz (by rfl) ?_;dsimp only));refine Kd.R_lit (Kd.int .i64) _ 3 ?hg (N:=39) ?hd (xs:=([] :List Int)) (inner:= []) (ok:=fun _=>True) (okp:=fun _=>True) ?hr ?hp (fun _ hk=>hk) trivial (Zw _ _) (Zv _) (by simp) ?_;(case hd=>rfl);(case hg=>rfl);(case hr=>first|(go_simp;done)|(go_simp;rfl));(case hp=>exact (Reps.none _ _));intro p3 l4 I0 hb R3 f2;clear R3 f2;(first|rw [<-I1.o] at I0|(simp only [Int.reduceToNat] at I0;rw [<-I1.o] at I0));have n_:=Zb (Za (Kd.bYz (xd_ c0.o) (Kd.cbz I0) hb)) (Zb (Za (Kd.bYz (xd_ b0.o) (Kd.cbz I0) hb)) (Zb (Za (Kd.bCz (Kd.R_newM (M:=fun k_=>(w.heap.size<=k_)) I0 (adz bl_) (fun k_ h_=>h_)) (adz bl_))) (hs_ HB hb)));clear c0 b0 HB;obtain ⟨c0,b0,J1,HB⟩:=n_;clear hb I0;have P1:0<=(e0:Int):=Zc as_;have X1:e0<(l2.length:Int):=Zc as_;obtain ⟨_,T2,m3,Z2,C0,X0,Q0⟩:=at_L4 B2.o e0 P1 X1;cases Z2;replace C0:=(HB.o.cell (Zj w _ C0)).trans C0;have t1:=Za Q0;have H2:=Za X0;clear Q0 X0;replace P1:=Zz P1;replace X1:=Zz X1)|((with_reducible refine amz (b:= .append) (xs:= #[.tmp 39, .tmp 43]) rfl ?_);(try (refine aYz (by rfl) ?_;dsimp only));at_builtin;refine Kd.bVz (Kd.int .i64) (w0:=w) w.heap.size rfl (.tmp 39) (.tmp 43) 57 3 (.int .i64 0) 8 rfl underlying57 info3 rfl (by decide) (by omega) p3 s2 (rd_L4 l2 e0) _ _ _ (fun k_=>(w.heap.size<=k_)) (fun _=>False) rfl rfl (rm_ J1) (by repeat (first|exact (Kd.aMz t1.o HB.o)|(with_reducible refine Kd.cez ?_ _)|(with_reducible refine Kd.bEz ?_ _)|(with_reducible refine Kd.cpz ?_))) (fun _ _ h=>h) (fun _ h=>h.elim) (fun k_ hk=>(Zt (adz bl_) hk)) bl_ (adz bl_) (by have:=q2.o;omega) ?_;intro c3 k4 ho hb hg hat;rw [<-o2.o] at ho;have n_:=Zb (Za (Kd.crz (ok:=(fun k_=>(w.heap.size<=k_)/\some k_≠(u10:Value).ownBlock)) (xd_ c0.o) hg hat)) (Zb (Za (Kd.crz (ok:=(fun k_=>(w.heap.size<=k_)/\some k_≠(J0:Value).ownBlock)) (xd_ b0.o) hg hat)) (Zb (Za (hb)) (Za (ho))));clear c0 b0 HB J1;obtain ⟨c0,b0,HB,G1⟩:=n_;clear ho hb hg hat;obtain ⟨P3,H0,h3⟩:=Kd.czz c0.o;subst h3;have y1:0<=(e0:Int):=Zc as_;have q1:e0<(n0.length:Int):=Zc as_;obtain ⟨t0,q3,Y2,a3,p1,L0,T0⟩:=at_L4 (Kd.bpz c0.o).2.2 e0 y1 q1;cases a3;obtain ⟨A3,V1,W1,n1⟩:=Kd.N_get c0.o [] e0 y1 (by first|exact q1|exact Zc as_|(have e_:=(Kd.bpz c0.o).1;omega));obtain ⟨F2,E2,rfl,B0,D0⟩:=Kd.cNz W1;have p0:=n1 0 _ rfl;rw [Nat.add_zero,show ((Kd.slice 3 (Kd.int .i64))).sz=1 from rfl,Nat.mul_one] at p0;replace p0:=Zn (p0.symm.trans p1);injection p0 with j1 T1 f1;rw [j1] at D0;rw [f1] at B0;have g0:=Za (show Kd.V (Kd.int .i64) 3 _ w.heap.size _ _ (rd_L4 n0 e0) from Kd.V_mk B0 D0);clear j1 T1 f1 D0 B0;clear n1 V1;have N0:=Za T0;have K2:=Za L0;clear T0 L0;replace y1:=Zz y1;replace q1:=Zz q1)|((with_reducible refine amz (b:= .append) (xs:= #[.tmp 45, .tmp 49]) rfl ?_);(try (refine aYz (by rfl) ?_;dsimp only));at_builtin;refine Kd.bVz (Kd.int .i64) (w0:=w) w.heap.size rfl (.tmp 45) (.tmp 49) 57 3 (.int .i64 0) 8 rfl underlying57 info3 rfl (by decide) (by omega) c3 u2 (rd_L4 n0 e0) _ _ _ (fun k_=>(w.heap.size<=k_)) (fun _=>False) rfl rfl (xd_ G1.o) (by repeat (first|exact (by repeat (first|(with_reducible exact N0.o)|(with_reducible refine Kd.cez ?_ _)|(with_reducible refine Kd.bEz ?_ _)|(with_reducible refine Kd.cpz ?_)|exact N0.o))|(with_reducible refine Kd.cez ?_ _)|(with_reducible refine Kd.bEz ?_ _)|(with_reducible refine Kd.cpz ?_))) (fun _ _ h=>h) (fun _ h=>h.elim) (fun k_ hk=>(Zt (adz bl_) hk)) bl_ (adz bl_) (by have:=y2.o;omega) ?_;intro a4 i4 ho hb hg hat;rw [<-w2.o] at ho;have n_:=Zb (Za (Kd.crz (ok:=(fun k_=>(w.heap.size<=k_)/\some k_≠(u10:Value).ownBlock)) (xd_ c0.o) hg hat)) (Zb (Za (Kd.crz (ok:=(fun k_=>(w.heap.size<=k_)/\some k_≠(.slice (some t0) n0.length H0:Value).ownBlock)) (xd_ b0.o) hg hat)) (Zb (Za (Kd.drz (ok:=(fun k_=>(w.heap.size<=k_)/\some k_≠(.slice (some t0) n0.length H0:Value).ownBlock/\some k_≠(u10:Value).ownBlock)) (by (with_reducible repeat (first|apply Kd.dzz|apply Kd.dAz|apply Kd.dGz));exact Kd.dFz g0.o (fun _ hk=>⟨⟨hk.1.1.1,⟨hk.2,hk.1.1.2⟩⟩,hk.1.2⟩)) hg hat)) (Zb (Za (hb)) (Za (ho)))));clear c0 b0 g0 HB G1;obtain ⟨c0,b0,g0,HB,P0⟩:=n_;clear ho hb hg hat;obtain ⟨L1,N1,R2⟩:=Kd.aQz P0.o;subst R2)|((with_reducible refine amz (b:= .append) (xs:= #[.tmp 51, .tmp 53]) rfl ?_);(try (refine aYz (by rfl) ?_;dsimp only));at_builtin;refine Kd.N_append (Kd.slice 3 (Kd.int .i64)) (w0:=w) w.heap.size rfl (.tmp 51) (.tmp 53) 68 57 (.slice none 0 0) 24 rfl underlying68 info57 rfl (by decide) (by omega) u10 k0 k1 [.slice L1 k1.length N1] (fun k_=>(w.heap.size<=k_)/\some k_≠(.slice (some t0) n0.length H0:Value).ownBlock) (fun k_=>((fun k_=>(w.heap.size<=k_)/\some k_≠(.slice (some t0) n0.length H0:Value).ownBlock)) k_/\some k_≠(u10:Value).ownBlock) rfl rfl (Kd.ebz (Kd.aHz (Kd.aKz (ok':=(fun k_=>((fun k_=>(w.heap.size<=k_)/\some k_≠(.slice (some t0) n0.length H0:Value).ownBlock)) k_/\some k_≠(u10:Value).ownBlock)) (Kd.bqz (Kd.bqz (P0.o) (Kd.dyz c0.o) (by decide)) (Kd.dyz b0.o) (by decide)) (fun k_ hk=>⟨⟨hk.1.1,hk.1.2⟩,hk.2⟩))).2.1 (Kd.R_F (Kd.aKz (ok':=(fun k_=>((fun k_=>(w.heap.size<=k_)/\some k_≠(.slice (some t0) n0.length H0:Value).ownBlock)) k_/\some k_≠(u10:Value).ownBlock)) (Kd.bqz (Kd.bqz (P0.o) (Kd.dyz c0.o) (by decide)) (Kd.dyz b0.o) (by decide)) (fun k_ hk=>⟨⟨hk.1.1,hk.1.2⟩,hk.2⟩)))) (fun _ hk=>hk) (fun k_ hk=>⟨(Zt (adz bl_) hk),Kd.fresh' (Kd.N_lt (xd_ c0.o)) k_ hk⟩) (nm_ b0) bl_ (adz bl_) (by have:=n2.o;omega) ?_;intro W3 g4 ho hb hg hat;rw [<-j2.o] at ho;have n_:=Zb (Za (Kd.crz (ok:=(fun k_=>(w.heap.size<=k_)/\some k_≠(.slice L1 k1.length N1:Value).ownBlock)) (nm_ c0) hg hat)) (Zb (Za (Kd.drz (ok:=(fun k_=>(w.heap.size<=k_)/\some k_≠(.slice (some t0) n0.length H0:Value).ownBlock/\some k_≠(.slice L1 k1.length N1:Value).ownBlock)) (by (with_reducible repeat (first|apply Kd.dzz|apply Kd.dAz|apply Kd.dGz));exact Kd.dFz g0.o (fun _ hk=>⟨⟨hk.1.1,⟨hk.1.2.1,hk.2⟩⟩,hk.1.2.2⟩)) hg hat)) (Zb (Za (hb)) (Za (ho))));clear c0 g0 HB b0 P0;obtain ⟨c0,g0,HB,e2⟩:=n_;clear ho hb hg hat))
    go_roundg k2
    case measure=>have:=G2.o;have:=J2.o;omega
    case rel=>exact ⟨(i3),(wrap64 (e0+1)),sd_,H',⟨by have:=G2.o;have:=J2.o;omega⟩,⟨nm_ c0⟩,⟨xd_ e2.o⟩,⟨bl_⟩⟩
   ·rw [Yb b2] at H;have B1:=Ze b2;clear b2;obtain ⟨⟨f0,Y1⟩,I3,H⟩:=ob_ H
    (try dsimp only at H)
    by_cases a2:Y1<(l2.length:Int)
    ·rw [Ya a2] at H;have D1:=Zd a2;clear a2;simp only [Zx,Zy] at H;obtain ⟨rfl,rfl⟩:=H;obtain ⟨f3,b3,V2⟩:=Kd.czz b0.o;subst V2
     go_wp2_with (first|((with_reducible refine aaz (f:=99) rfl ?_);refine gl_ (some 60) func99 #[.int .i64 a0, .int .u32 a1, .slice f3 k0.length b3, .int .i64 (l2.length:Int)] ?_;(with_reducible refine (agz.calls k2 a0 a1 (fun k_=>((w.heap.size<=k_)/\some k_≠(J0:Value).ownBlock)) _ _ k0 (l2.length:Int) f0 Y1 _ (Kd.N_V (b0.o)) I3.o).mono ?_);rintro e j4 ⟨U1,rfl,d1,hb⟩;refine ⟨_,rfl,?_⟩;have n_:=Zb (Za (Kd.bYz (xd_ c0.o) (Kd.dfz d1) hb)) (Zb (Za (Kd.bYz (xd_ b0.o) (Kd.dfz d1) hb)) (Zb (Za (Kd.bXz (Kd.b2z (ok':=fun k_=>(w.heap.size<=k_)/\some k_≠(J0:Value).ownBlock) d1 (fun k_ O1=>⟨Or.elim O1 (fun hs_=>hs_.1) (fun M1=>(Zt (adz bl_) M1)),Or.elim O1 (fun hs_=>hs_.2) (fun M1=>(Kd.fresh' (Kd.N_lt (xd_ c0.o)) k_ M1))⟩)) (adz bl_))) (hs_ HB hb)));clear c0 b0 HB;obtain ⟨c0,b0,H1,HB⟩:=n_;clear hb d1))
     go_ret2;exact ⟨_,er_,nl_,bl_⟩
    ·rw [Yb a2] at H;have D1:=Ze a2;clear a2;have H':=Za H;clear H;obtain ⟨P2,X2,O2⟩:=Kd.czz b0.o;subst O2
     go_wp2_with (first|((with_reducible refine aaz (f:=99) rfl ?_);refine gl_ (some 60) func99 #[.int .i64 a0, .int .u32 a1, .slice P2 k0.length X2, .int .i64 (l2.length:Int)] ?_;(with_reducible refine (agz.calls k2 a0 a1 (fun k_=>((w.heap.size<=k_)/\some k_≠(J0:Value).ownBlock)) _ _ k0 (l2.length:Int) f0 Y1 _ (Kd.N_V (b0.o)) I3.o).mono ?_);rintro e f4 ⟨U1,rfl,d1,hb⟩;refine ⟨_,rfl,?_⟩;have n_:=Zb (Za (Kd.bYz (xd_ c0.o) (Kd.dfz d1) hb)) (Zb (Za (Kd.bYz (xd_ b0.o) (Kd.dfz d1) hb)) (Zb (Za (Kd.bXz (Kd.b2z (ok':=fun k_=>(w.heap.size<=k_)/\some k_≠(J0:Value).ownBlock) d1 (fun k_ O1=>⟨Or.elim O1 (fun hs_=>hs_.1) (fun M1=>(Zt (adz bl_) M1)),Or.elim O1 (fun hs_=>hs_.2) (fun M1=>(Kd.fresh' (Kd.N_lt (xd_ c0.o)) k_ M1))⟩)) (adz bl_))) (hs_ HB hb)));clear c0 b0 HB;obtain ⟨c0,b0,H1,HB⟩:=n_;clear hb d1))
     go_loopg [15,16] k2 (fun kq z3 c4 w'=> ∃(G0:List (List Int)) (d0:Int),c4= .int .i64 d0/\Aside0 (ahz.l1 kq (l2.length:Int) f0 G0 d0=some (r1,r2))/\Aside0 (kq<=k2)/\Aside0 (Kd.N (Kd.slice 3 (Kd.int .i64)) 57 w' w.heap.size (fun k_=>(w.heap.size<=k_)/\some k_≠(z3:Value).ownBlock) U1 f0)/\Aside0 (Kd.N (Kd.slice 3 (Kd.int .i64)) 57 w' w.heap.size (fun k_=>(w.heap.size<=k_)/\some k_≠(U1:Value).ownBlock) z3 G0)/\Aside0 (Below w.heap.size w w'))
     case atStart=>exact ⟨(([] :List (List Int))),(0),sd_,H',⟨Zv _⟩,⟨nm_ H1⟩,⟨nl_⟩,⟨bl_⟩⟩
     clear H';clear B1 D1;obtain ⟨G0,d0,rfl,HA,H3,h0,g1,HB⟩:=hrel;rcases gk with _|k3
     ·exact Yf HA.o (by simp [ahz.l1])
     have H:=HA.o;clear HA;simp only [ahz.l1] at H;by_cases d2:d0<(l2.length:Int)
     rotate_left
     ·rw [Yb d2] at H;have i2:=Ze d2;clear d2;simp only [Zx,Zy] at H;obtain ⟨rfl,rfl⟩:=H;go_wp2;go_ret2;exact ⟨_,er_,nm_ g1,bl_⟩
     rw [Ya d2] at H;have i2:=Zd d2;clear d2;obtain ⟨u3,H⟩:=ih_ H;obtain ⟨O3,H⟩:=ih_ H;obtain ⟨s3,H⟩:=ig_ H;have G3:=Zz s3;have y3:=Zd s3;clear s3;obtain ⟨j3,H⟩:=ig_ H;have w3:=Zz j3;have N3:=Zd j3;clear j3;obtain ⟨v0,Y0⟩: ∃y_:List Int,y_=((rd_L4 f0 d0).drop ((l2.length:Int):Int).toNat):=⟨_,rfl⟩
     first|rw [Zl, <-Y0] at H|rw [<-Y0] at H
     (try dsimp only at H)
     have E1:=Za Y0;clear Y0;obtain ⟨v2,H⟩:=ij_ H;obtain ⟨l3,R0⟩: ∃y_:List (List Int),y_=(G0++ [v0]):=⟨_,rfl⟩
     first|rw [Zl, <-R0] at H|rw [<-R0] at H
     (try dsimp only at H)
     have m2:=Za R0;clear R0;have H':=Za H;clear H;obtain ⟨Q3,c1,o3⟩:=Kd.czz h0.o;subst o3;have v1:0<=(d0:Int):=Zc as_;have A1:d0<(f0.length:Int):=Zc as_;obtain ⟨y0,A0,u0,W2,u1,K0,O0⟩:=at_L4 (Kd.bpz h0.o).2.2 d0 v1 A1;cases W2
     obtain ⟨M3,Q1,R1,m1⟩:=Kd.N_get h0.o [] d0 v1 (by first|exact A1|exact Zc as_|(have e_:=(Kd.bpz h0.o).1;omega));obtain ⟨I2,D2,rfl,z0,E0⟩:=Kd.cNz R1;have q0:=m1 0 _ rfl;rw [Nat.add_zero,show ((Kd.slice 3 (Kd.int .i64))).sz=1 from rfl,Nat.mul_one] at q0;replace q0:=Zn (q0.symm.trans u1);injection q0 with j1 T1 f1
     rw [j1] at E0;rw [f1] at z0;have o0:=Za (show Kd.V (Kd.int .i64) 3 _ w.heap.size _ _ (rd_L4 f0 d0) from Kd.V_mk z0 E0);clear j1 T1 f1 E0 z0;clear m1 Q1;have L2:=Za O0;have z1:=Za K0;clear O0 K0;replace v1:=Zz v1;replace A1:=Zz A1;have e3:((l2.length:Int):Int)<=(((rd_L4 f0 d0).length:Int):Int):=Zc as_;obtain ⟨e4,F1,_,C1,_⟩:=info_parts info3;have r0:(rd_L4 f0 d0).length<=u0:=z1.o;have g2:Kd.F (Kd.int .i64) _ _ A0 (rd_L4 f0 d0).length (rd_L4 f0 d0):=(Kd.V_at (base:=w.heap.size) o0.o).2.2;have M2:(0:Int)<=((l2.length:Int):Int):=Zc as_;have S1:=cut_from (P:=prog) 57 3 .i64 underlying57 F1 1 C1 A0 (rd_L4 f0 d0).length u0 (l2.length:Int) M2 e3;have i1:=Kd.F_cut (m:=((l2.length:Int):Int).toNat) (c:=u0) g2 (by omega) r0
     obtain ⟨r3,s1⟩: ∃T3,T3=(if u0=((l2.length:Int):Int).toNat then A0 else (A0:Option Addr).map (·.add (((l2.length:Int):Int).toNat*1))):=⟨_,rfl⟩;obtain ⟨g3,o1⟩: ∃Y3,Y3=u0 - ((l2.length:Int):Int).toNat:=⟨_,rfl⟩;have e1:v0.length=(rd_L4 f0 d0).length - ((l2.length:Int):Int).toNat:=(by rw [E1.o,List.length_drop] <;>omega);rw [show (rd_L4 f0 d0).drop ((l2.length:Int):Int).toNat=v0 from E1.o.symm] at i1;replace i1:Kd.F (Kd.int .i64) _ _ r3 v0.length v0:=(by rw [s1];exact i1);rw [<-e1, <-s1, <-o1] at S1;have F0:=Za (show Kd.V (Kd.int .i64) 3 _ w.heap.size _ (.slice r3 v0.length g3) v0 from Kd.V_mk (by rw [e1,o1];exact Nat.sub_le_sub_right r0 _) i1);have D3:=Za (show v0.length<=g3 from by rw [e1,o1];exact Nat.sub_le_sub_right r0 _);clear i1 g2 r0 F1 C1 o1;have b4:=Za e1;have V3:=Za s1
     clear e1 s1;replace e3:=Zz e3
     go_wp2_with (first|((with_reducible refine amz (b:= .append) (xs:= #[.tmp 71, .tmp 78]) rfl ?_);(try (refine aYz (by rfl) ?_;dsimp only));at_builtin;refine Kd.N_append (Kd.slice 3 (Kd.int .i64)) (w0:=w) w.heap.size rfl (.tmp 71) (.tmp 78) 68 57 (.slice none 0 0) 24 rfl underlying68 info57 rfl (by decide) (by omega) u15 G0 v0 [.slice r3 v0.length g3] (fun k_=>(w.heap.size<=k_)/\some k_≠(.slice (some y0) f0.length c1:Value).ownBlock) (fun k_=>((fun k_=>(w.heap.size<=k_)/\some k_≠(.slice (some y0) f0.length c1:Value).ownBlock)) k_/\some k_≠(u15:Value).ownBlock) rfl rfl (Kd.ebz (Kd.dcz (Kd.dFz (ok':=(fun k_=>((fun k_=>(w.heap.size<=k_)/\some k_≠(.slice (some y0) f0.length c1:Value).ownBlock)) k_/\some k_≠(u15:Value).ownBlock)) (F0.o) (fun k_ hk=>⟨⟨hk.1.1,hk.2⟩,hk.1.2⟩))).2.1 (Kd.V_F (Kd.dFz (ok':=(fun k_=>((fun k_=>(w.heap.size<=k_)/\some k_≠(.slice (some y0) f0.length c1:Value).ownBlock)) k_/\some k_≠(u15:Value).ownBlock)) (F0.o) (fun k_ hk=>⟨⟨hk.1.1,hk.2⟩,hk.1.2⟩)))) (fun _ hk=>hk) (fun k_ hk=>⟨(Zt (adz bl_) hk),Kd.fresh' (Kd.N_lt (xd_ h0.o)) k_ hk⟩) (xd_ g1.o) bl_ (adz bl_) (by have:=v2.o;omega) ?_;intro d4 m4 ho hb hg hat;rw [<-m2.o] at ho;have n_:=Zb (Za (Kd.crz (ok:=(fun k_=>(w.heap.size<=k_))) (xd_ h0.o) hg hat)) (Zb (Za (Kd.drz (ok:=(fun k_=>(w.heap.size<=k_)/\some k_≠(.slice (some y0) f0.length c1:Value).ownBlock)) (by (with_reducible repeat (first|apply Kd.dzz|apply Kd.dAz|apply Kd.dGz));exact Kd.dFz o0.o (fun _ hk=>⟨⟨hk.1.1,hk.2⟩,hk.1.2⟩)) hg hat)) (Zb (Za (Kd.drz (ok:=(fun k_=>(w.heap.size<=k_)/\some k_≠(.slice (some y0) f0.length c1:Value).ownBlock)) (vm_ F0) hg hat)) (Zb (Za (hb)) (Za (ho)))));clear h0 o0 F0 HB g1;obtain ⟨h0,o0,F0,HB,t2⟩:=n_;clear ho hb hg hat))
     go_roundg k3
     case measure=>have:=G2.o;have:=J2.o;have:=H3.o;omega
     case rel=>exact ⟨(l3),(wrap64 (d0+1)),sd_,H',⟨by have:=G2.o;have:=J2.o;have:=H3.o;omega⟩,⟨xd_ h0.o⟩,⟨xd_ t2.o⟩,⟨bl_⟩⟩
def bkz.f (a0:Int) (a1:Int):Option (Bool):=if a0>=1 then (if a0<=20 then (if a1>=1 then (if a1<=20 then (some (decide ((wrap64 (a0+a1))<=20))) else (some false)) else (some false)) else (some false)) else (some false)
theorem bkz.calls (a0 a1:Int) (r:Bool) (w:World) (h:bkz.f a0 a1=some r):
  Calls prog 129 #[.int .i64 a0, .int .i64 a1] w fun e w'=>e= .returned (.bool r)/\Drawn0 w w':=by
 have H:=h;clear h;unfold bkz.f at H;by_cases c3:a0>=1
 rotate_left
 ·rw [Yb c3] at H;have b0:decide (1<=a0)=false:=Ze c3;clear c3;obtain rfl:=Zn H;go_enter func129,ntmps129;go_wp2;go_ret;exact ⟨sd_,dn_⟩
 rw [Ya c3] at H;have b0:decide (1<=a0)=true:=Zd c3;clear c3;by_cases c4:a0<=20
 rotate_left
 ·rw [Yb c4] at H;have c0:=Ze c4;clear c4;obtain rfl:=Zn H;go_enter func129,ntmps129;go_wp2;go_ret;exact ⟨sd_,dn_⟩
 rw [Ya c4] at H;have c0:=Zd c4;clear c4;by_cases c5:a1>=1
 rotate_left
 ·rw [Yb c5] at H;have e0:decide (1<=a1)=false:=Ze c5;clear c5;obtain rfl:=Zn H;go_enter func129,ntmps129;go_wp2;go_ret;exact ⟨sd_,dn_⟩
 rw [Ya c5] at H;have e0:decide (1<=a1)=true:=Zd c5;clear c5;by_cases c6:a1<=20
 ·rw [Ya c6] at H;have d0:=Zd c6;clear c6;obtain rfl:=Zn H;go_enter func129,ntmps129;go_wp2;go_ret;exact ⟨sd_,dn_⟩
 ·rw [Yb c6] at H;have d0:=Ze c6;clear c6;obtain rfl:=Zn H;go_enter func129,ntmps129;go_wp2;go_ret;exact ⟨sd_,dn_⟩
mutual
def apz.j0:Nat->Int->Int->Int->Int->Bool->Option ((List (List Int))×Bool)
 |0,_,_,_,_,_=>none
 |k+1,x0,x1,x2,x3,x27=>if x27=true then (some (([] :List (List Int)),false)) else (apz.l0 k x0 x1 x2 x3 ([] :List (List Int)) 0)
def apz.l0:Nat->Int->Int->Int->Int->List (List Int)->Int->Option ((List (List Int))×Bool)
 |0,_,_,_,_,_,_=>none
 |k+1,x0,x1,x2,x3,x10,x11=>if x11<x2 then (apz.l1 k x0 x1 x2 x3 x10 x11 ([] :List Int) 0) else (some (x10,true))
def apz.l1:Nat->Int->Int->Int->Int->List (List Int)->Int->List Int->Int->Option ((List (List Int))×Bool)
 |0,_,_,_,_,_,_,_,_=>none
 |k+1,x0,x1,x2,x3,x10,x11,x12,x13=>if x13<x3 then ((aOz.f k x0 x1 x11 x13).bind fun t216=>(if x12.length<17592186044416 then (apz.l1 k x0 x1 x2 x3 x10 x11 (x12++ [t216]) (wrap64 (x13+1))) else (none))) else (if x10.length<5864062014805 then (apz.l0 k x0 x1 x2 x3 (x10++ [x12]) (wrap64 (x11+1))) else (none))
end
def apz.f (k:Nat) (a0 a1 a2:Int) (a3:Int):Option ((List (List Int))×Bool):=if a2<1 then (apz.j0 k a0 a1 a2 a3 true) else (if a2>20 then (apz.j0 k a0 a1 a2 a3 true) else (if a3<1 then (apz.j0 k a0 a1 a2 a3 true) else (apz.j0 k a0 a1 a2 a3 (decide (a3>20)))))
theorem apz.a6z: ∀k,(∀y0 y1 y2 y3 y4,LeO (apz.j0 k y0 y1 y2 y3 y4) (apz.j0 (k+1) y0 y1 y2 y3 y4))/\(∀y0 y1 y2 y3 y4 y5,LeO (apz.l0 k y0 y1 y2 y3 y4 y5) (apz.l0 (k+1) y0 y1 y2 y3 y4 y5))/\(∀y0 y1 y2 y3 y4 y5 y6 y7,LeO (apz.l1 k y0 y1 y2 y3 y4 y5 y6 y7) (apz.l1 (k+1) y0 y1 y2 y3 y4 y5 y6 y7))
 |0=>⟨fun _ _ _ _ _ r h=>by simp [apz.j0] at h,fun _ _ _ _ _ _ r h=>by simp [apz.l0] at h,fun _ _ _ _ _ _ _ _ r h=>by simp [apz.l1] at h⟩
 |k+1=>by
  obtain ⟨a0,c0,b0⟩:=apz.a6z k;refine ⟨?_,?_,?_⟩
  ·intro y0 y1 y2 y3 y4;unfold apz.j0
   repeat' with_reducible first|apply a0|apply c0|apply b0|apply aOz.mono|apply Yg|apply Yh|apply Yi|refine Yj ?_ fun _=>?_
  ·intro y0 y1 y2 y3 y4 y5;unfold apz.l0
   repeat' with_reducible first|apply a0|apply c0|apply b0|apply aOz.mono|apply Yg|apply Yh|apply Yi|refine Yj ?_ fun _=>?_
  ·intro y0 y1 y2 y3 y4 y5 y6 y7;unfold apz.l1
   repeat' with_reducible first|apply a0|apply c0|apply b0|apply aOz.mono|apply Yg|apply Yh|apply Yi|refine Yj ?_ fun _=>?_
theorem apz.mono: ∀a0 a1 a2 a3 k,LeO (apz.f k a0 a1 a2 a3) (apz.f (k+1) a0 a1 a2 a3):=by
 intro a0 a1 a2 a3 k;obtain ⟨b0,d0,c0⟩:=apz.a6z k;unfold apz.f
 repeat' with_reducible first|apply b0|apply d0|apply c0|apply aOz.mono|apply Yg|apply Yh|apply Yi|refine Yj ?_ fun _=>?_
theorem apz.calls (k:Nat) (a0 a1 a2 a3:Int) (r1:List (List Int)) (r2:Bool) (w:World) (h:apz.f k a0 a1 a2 a3=some (r1,r2)):
  Calls prog 133 #[.int .i64 a0, .int .u32 a1, .int .i64 a2, .int .i64 a3] w fun e w'=> ∃N0:Value,e= .returned (.tuple #[N0, .bool r2])/\Kd.S (Kd.slice 3 (Kd.int .i64)) 57 w' w.heap.size (fun _=>True) N0 r1/\Below w.heap.size w w':=by
 have HB:=Za (Zw w.heap.size w);have H:=h;clear h;unfold apz.f at H;have J0:=Za H;clear H;go_enter func133,ntmps133
 go_upto_region 1 with (fail)
 go_cut [27] (fun X0 wc=> ∃(kq:Nat) (i0:Bool),X0= .bool i0/\Aside0 (apz.j0 kq a0 a1 a2 a3 i0=some (r1,r2))/\Aside0 (kq<=k)/\Aside0 (Below w.heap.size w wc))
 case first=>
  have H:=J0.o;clear J0;by_cases c6:a2<1
  ·rw [Ya c6] at H;have L0:=Zd c6;clear c6;have H':=Za H;clear H;go_wp2
   go_meet
   case rel=>exact ⟨_,(true),sd_,H',⟨by first|omega|exact Zv _⟩,⟨bl_⟩⟩
  ·rw [Yb c6] at H;have L0:=Ze c6;clear c6;by_cases c7:a2>20
   ·rw [Ya c7] at H;have M0:decide (20<a2)=true:=Zd c7;clear c7;have H':=Za H;clear H;go_wp2
    go_meet
    case rel=>exact ⟨_,(true),sd_,H',⟨by first|omega|exact Zv _⟩,⟨bl_⟩⟩
   ·rw [Yb c7] at H;have M0:decide (20<a2)=false:=Ze c7;clear c7;by_cases c8:a3<1
    ·rw [Ya c8] at H;have K0:=Zd c8;clear c8;have H':=Za H;clear H;go_wp2
     go_meet
     case rel=>exact ⟨_,(true),sd_,H',⟨by first|omega|exact Zv _⟩,⟨bl_⟩⟩
    ·rw [Yb c8] at H;have K0:=Ze c8;clear c8;have H':=Za H;clear H;go_wp2
     go_meet
     case rel=>exact ⟨_,(decide (a3>20)),sd_,H',⟨by first|omega|exact Zv _⟩,⟨bl_⟩⟩
 case rest=>
  clear J0;obtain ⟨kq,i0,rfl,HA,E0,HB⟩:=hcut;rcases kq with _|P0
  ·exact Yf HA.o (by simp [apz.j0])
  have H:=HA.o;clear HA;simp only [apz.j0] at H;by_cases c9:i0=true
  ·subst c9;rw [Ya rfl] at H;simp only [Zx,Zy] at H;obtain ⟨rfl,rfl⟩:=H;go_wp2;go_ret2;exact ⟨_,er_,nl_,bl_⟩
  ·replace c9:=Zr c9;subst c9;rw [Yb (show¬(false=true) by decide)] at H;have H':=Za H;clear H;go_wp2
   go_loopg [10,11] P0 (fun kq W0 U0 w'=> ∃(e0:List (List Int)) (d0:Int),U0= .int .i64 d0/\Aside0 (apz.l0 kq a0 a1 a2 a3 e0 d0=some (r1,r2))/\Aside0 (kq<=P0)/\Aside0 (Kd.S (Kd.slice 3 (Kd.int .i64)) 57 w' w.heap.size (fun _=>True) W0 e0)/\Aside0 (Below w.heap.size w w'))
   case atStart=>exact ⟨(([] :List (List Int))),(0),sd_,H',⟨Zv _⟩,⟨nl_⟩,⟨bl_⟩⟩
   clear H';obtain ⟨e0,d0,rfl,HA,F0,b0,HB⟩:=hrel;rcases gk with _|k2
   ·exact Yf HA.o (by simp [apz.l0])
   have H:=HA.o;clear HA;simp only [apz.l0] at H;by_cases q0:d0<a2
   rotate_left
   ·rw [Yb q0] at H;have o0:=Ze q0;clear q0;simp only [Zx,Zy] at H;obtain ⟨rfl,rfl⟩:=H;go_wp2;go_ret2;exact ⟨_,er_,xd_ b0.o,bl_⟩
   rw [Ya q0] at H;have o0:=Zd q0;clear q0;have H':=Za H;clear H;go_wp2
   go_loopg [12,13] k2 (fun kq O0 T0 w'=> ∃(c0:List Int) (f0:Int),T0= .int .i64 f0/\Aside0 (apz.l1 kq a0 a1 a2 a3 e0 d0 c0 f0=some (r1,r2))/\Aside0 (kq<=k2)/\Aside0 (Kd.S (Kd.slice 3 (Kd.int .i64)) 57 w' w.heap.size (fun k_=>some k_≠(O0:Value).ownBlock) u10 e0)/\Aside0 (Kd.R (Kd.int .i64) 3 w' w.heap.size (fun _=>True) O0 c0)/\Aside0 (Below w.heap.size w w'))
   case atStart=>exact ⟨(([] :List Int)),(0),sd_,H',⟨Zv _⟩,⟨sm_ b0⟩,⟨nl_⟩,⟨bl_⟩⟩
   clear H';clear o0;obtain ⟨c0,f0,rfl,HA,D0,b0,g0,HB⟩:=hrel;rcases gk with _|k3
   ·exact Yf HA.o (by simp [apz.l1])
   have H:=HA.o;clear HA;simp only [apz.l1] at H;by_cases p0:f0<a3
   ·rw [Ya p0] at H;have t0:=Zd p0;clear p0;obtain ⟨n0,V0,H⟩:=ob_ H
    (try dsimp only at H)
    obtain ⟨B0,H⟩:=ij_ H;obtain ⟨H0,h0⟩: ∃y_:List Int,y_=(c0++ [n0]):=⟨_,rfl⟩
    first|rw [Zl, <-h0] at H|rw [<-h0] at H
    (try dsimp only at H)
    have v0:=Za h0;clear h0;have H':=Za H;clear H
    go_wp2_with (first|((with_reducible refine aaz (f:=168) rfl ?_);refine gl_ (some 43) func168 #[.int .i64 a0, .int .u32 a1, .int .i64 d0, .int .i64 f0] ?_;(with_reducible refine (aOz.calls k3 a0 a1 d0 f0 n0 _ V0.o).mono ?_);rintro e w' ⟨rfl,⟨nd,rfl⟩⟩;refine ⟨_,rfl,?_⟩)|((with_reducible refine amz (b:= .append) (xs:= #[.tmp 38, .tmp 44]) rfl ?_);at_builtin;refine Kd.brz (Kd.int .i64) (w0:=w) w.heap.size rfl (.tmp 38) (.tmp 44) 57 3 (.int .i64 0) 8 rfl underlying57 info3 rfl (by decide) (by omega) u12 c0 n0 [.int .i64 n0] (fun _=>True) (fun _=>False) rfl rfl rfl (fun _ hk=>hk.elim) (fun _ _=>trivial) (xd_ g0.o) bl_ (adz bl_) (by have:=B0.o;omega) ?_;intro Q0 Z0 ho hb hg hat;rw [<-v0.o] at ho;have n_:=Zb (Za (Kd.cFz (ok:=(fun _=>True)) (sm_ b0) hg hat)) (Zb (Za (hb)) (Za (ho)));clear b0 HB g0;obtain ⟨b0,HB,r0⟩:=n_;clear ho hb hg hat))
    go_roundg k3
    case measure=>have:=E0.o;have:=F0.o;have:=D0.o;omega
    case rel=>exact ⟨(H0),(wrap64 (f0+1)),sd_,H',⟨by have:=E0.o;have:=F0.o;have:=D0.o;omega⟩,⟨sm_ b0⟩,⟨xd_ r0.o⟩,⟨bl_⟩⟩
   ·rw [Yb p0] at H;have t0:=Ze p0;clear p0;obtain ⟨u0,H⟩:=ij_ H;obtain ⟨I0,k0⟩: ∃y_:List (List Int),y_=(e0++ [c0]):=⟨_,rfl⟩
    first|rw [Zl, <-k0] at H|rw [<-k0] at H
    (try dsimp only at H)
    have z0:=Za k0;clear k0;have H':=Za H;clear H;obtain ⟨C0,y0,G0⟩:=Kd.aQz g0.o;subst G0
    go_wp2_with (first|((with_reducible refine amz (b:= .append) (xs:= #[.tmp 46, .tmp 48]) rfl ?_);at_builtin;refine Kd.bLz (Kd.slice 3 (Kd.int .i64)) (w0:=w) w.heap.size rfl (.tmp 46) (.tmp 48) 68 57 (.slice none 0 0) 24 rfl underlying68 info57 rfl (by decide) (by omega) u10 e0 c0 [.slice C0 c0.length y0] (fun _=>True) (fun k_=>some k_=(.slice C0 c0.length y0:Value).ownBlock) rfl rfl (Kd.M_row (Kd.aKz (Kd.b5z rfl (Kd.aKz (ok':=fun k_=>((fun _=>True)) k_/\some k_≠(u10:Value).ownBlock) (Kd.bqz (g0.o) (Kd.bFz b0.o) (by decide)) (fun k_ hk=>⟨trivial,hk.2⟩))) (fun _ h_=>h_))) (fun k_ R0=>((Kd.aKz (ok':=fun k_=>((fun _=>True)) k_/\some k_≠(u10:Value).ownBlock) (Kd.bqz (g0.o) (Kd.bFz b0.o) (by decide)) (fun k_ hk=>⟨trivial,hk.2⟩))).1 k_ R0.symm) (fun _ _=>trivial) (sm_ b0) bl_ (adz bl_) (by have:=u0.o;omega) ?_;intro S0 Y0 ho hb hg hat;rw [<-z0.o] at ho;have n_:=Zb (Za (hb)) (Za (ho));clear HB b0 g0;obtain ⟨HB,A0⟩:=n_;clear ho hb hg hat))
    go_roundg k3
    case measure=>have:=E0.o;have:=F0.o;have:=D0.o;omega
    case rel=>exact ⟨(I0),(wrap64 (d0+1)),sd_,H',⟨by have:=E0.o;have:=F0.o;have:=D0.o;omega⟩,⟨xd_ A0.o⟩,⟨bl_⟩⟩
end Go.Proofs.Xc
end
