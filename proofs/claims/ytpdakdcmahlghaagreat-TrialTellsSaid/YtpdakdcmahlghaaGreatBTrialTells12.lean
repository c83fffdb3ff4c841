-- Joined texts of this work (wip/tools/bundle.py).
import Derived.Test.YtpdakdcmahlghaaGreatBTrialTells11
set_option maxHeartbeats 8000000
set_option maxRecDepth 100000
set_option linter.unusedVariables false
set_option linter.unusedSimpArgs false
section
namespace Go.Proofs.Xc
open Go.RowKit Go.Proofs.Pw Go.Proofs.Pl Go.Proofs.Pm
attribute [local go_sem] bcz bdz bpz bqz a4z a5z bez bfz
def aIz.l0:Nat->Int->Int->Int->Option (Int)
 |0,_,_,_=>none
 |k+1,x1,x5,x6=>if x1>0 then (if (Int.tmod x1 2)=1 then (aIz.l0 k ((Int.tdiv x1 2) % 4294967296) (Go.bits .xor .u64 x5 x6) (IntKind.u64.wrap (2*x6))) else (aIz.l0 k ((Int.tdiv x1 2) % 4294967296) x5 (IntKind.u64.wrap (2*x6)))) else (some x5)
def aIz.f (k:Nat) (a0:Int) (a1:Int):Option (Int):=aIz.l0 k a1 0 (IntKind.u64.wrap (a0))
theorem aIz.aXz: ∀k,(∀y0 y1 y2,LeO (aIz.l0 k y0 y1 y2) (aIz.l0 (k+1) y0 y1 y2))
 |0=>fun _ _ _ r h=>by simp [aIz.l0] at h
 |k+1=>by
  have ih0:=aIz.aXz k
  ·intro y0 y1 y2;unfold aIz.l0
   repeat' with_reducible first|apply ih0|apply Yg|apply Yh|apply Yi|refine Yj ?_ fun _=>?_
theorem aIz.mono: ∀a0 a1 k,LeO (aIz.f k a0 a1) (aIz.f (k+1) a0 a1):=by
 intro a0 a1 k;have ih0:=aIz.aXz k;unfold aIz.f
 repeat' with_reducible first|apply ih0|apply Yg|apply Yh|apply Yi|refine Yj ?_ fun _=>?_
theorem aIz.calls (k : Nat) (a0 : Int) (a1 : Int) (r : Int) (w : World) (h : aIz.f k a0 a1 = some r) :
  Calls Tryz.prog 181 #[.int .u32 a0, .int .u32 a1] w fun e w'=>e= .returned (.int .u64 r)/\Drawn0 w w':=by
 have H:=h;clear h;unfold aIz.f at H;have H':=Za H;clear H;go_enter Tryz.func181,Tryz.ntmps181;go_wp2
 go_loopg [1,5,6] k (fun kq v1 v5 v6 w'=> ∃(x1_1:Int) (x5_1:Int) (x6_1:Int),v1= .int .u32 x1_1/\v5= .int .u64 x5_1/\v6= .int .u64 x6_1/\Aside0 (aIz.l0 kq x1_1 x5_1 x6_1=some r)/\Aside0 (kq<=k)/\Drawn0 w w')
 case atStart=>exact ⟨(a1),(0),(IntKind.u64.wrap (a0)),sd_,sd_,sd_,H',⟨Zv _⟩,dn_⟩
 clear H';obtain ⟨x1_1,x5_1,x6_1,rfl,rfl,rfl,HA,HK1,⟨m1,rfl⟩⟩:=hrel;rcases gk with _|k1
 ·exact Yf HA.out (by simp [aIz.l0])
 have H:=HA.out;clear HA;simp only [aIz.l0] at H;by_cases c3:x1_1>0
 rotate_left
 ·rw [Yb c3] at H;have c3b0:decide (0<x1_1)=false:=Ze c3;clear c3;obtain rfl:=Zn H;go_wp2;go_ret;exact ⟨sd_,dn_⟩
 rw [Ya c3] at H;have c3b0:decide (0<x1_1)=true:=Zd c3;clear c3;by_cases c4:(Int.tmod x1_1 2)=1
 ·rw [Ya c4] at H;have c4b0:((Int.tmod x1_1 2)==1)=true:=Ye c4;have c4b1:((Int.tmod x1_1 2) !=1)=false:=Yc c4;clear c4;have H':=Za H;clear H;go_wp2
  go_roundg k1
  case measure=>have:=HK1.out;omega
  case rel=>exact ⟨((Int.tdiv x1_1 2) % 4294967296),(Go.bits .xor .u64 x5_1 x6_1),(IntKind.u64.wrap (2*x6_1)),sd_,sd_,sd_,H',⟨by have:=HK1.out;omega⟩,dn_⟩
 ·rw [Yb c4] at H;have c4b0:((Int.tmod x1_1 2)==1)=false:=Zq c4;have c4b1:((Int.tmod x1_1 2) !=1)=true:=Yd c4;have H':=Za H;clear H;go_wp2
  go_roundg k1
  case measure=>have:=HK1.out;omega
  case rel=>exact ⟨((Int.tdiv x1_1 2) % 4294967296),(x5_1),(IntKind.u64.wrap (2*x6_1)),sd_,sd_,sd_,H',⟨by have:=HK1.out;omega⟩,dn_⟩
theorem rmul_l0 (a b n:Nat) (ha:a<2^16) (hb:b<2^n) (hn:n<=16): ∀(j i k:Nat),i+j=n->j<k->aIz.l0 k ((b / 2^i:Nat):Int) ((cmN a b i:Nat):Int) ((a*2^i:Nat):Int)=some ((cmN a b n:Nat):Int):=by
 intro j
 induction j with
 |zero=>
  intro i k hi hk;obtain ⟨k,rfl⟩: ∃m,k=m+1:=⟨k - 1,by omega⟩;obtain rfl:i=n:=by omega
  unfold aIz.l0;rw [Nat.div_eq_of_lt hb,Yb (by omega)]
 |succ j ih=>
  intro i k hi hk;obtain ⟨k,rfl⟩: ∃m,k=m+1:=⟨k - 1,by omega⟩;have hb16:b<2^16:=Zp hb (Nat.pow_le_pow_right (by omega) hn);have hdl:=Nat.div_le_self b (2^i);unfold aIz.l0;by_cases h0:b / 2^i=0
  ·rw [Yb (by omega)]
   have hbi:b<2^i:=by
    rcases Nat.lt_or_ge b (2^i) with h|h
    ·exact h
    ·have:=Nat.div_pos h (Nat.pow_pos (by omega));omega
   rw [<-hi,cmN_more a b i hbi]
  ·have ih':=ih (i+1) k (by omega) (by omega);have e1:b / 2^(i+1)=b / 2^i / 2:=by rw [Nat.pow_succ,Nat.div_div_eq_div_mul]
   have e2:a*2^(i+1)=2*(a*2^i):=by rw [Nat.pow_succ];rw [Nat.mul_comm (2^i), <-Nat.mul_assoc,Nat.mul_comm a 2,Nat.mul_assoc]
   have l1:a*2^i<2^32:=Zp (cZz ha) (Nat.pow_le_pow_right (by omega) (by omega));have l2:cmN a b i<2^32:=Zp (cmN_lt a b 16 ha i) (Nat.pow_le_pow_right (by omega) (by omega));have e3:IntKind.u64.wrap (2*((a*2^i:Nat):Int))=((a*2^(i+1):Nat):Int):=by rw [IntKind.wrap_u64,e2];omega
   have e4:(Int.tdiv ((b / 2^i:Nat):Int) 2) % 4294967296=((b / 2^(i+1):Nat):Int):=by
    rw [Int.tdiv_eq_ediv_of_nonneg (Int.natCast_nonneg _),e1]
    generalize b / 2^i=c at *
    omega
   rw [Ya (by omega),e3,e4];by_cases ht:b.testBit i=true
   ·rw [Ya (by rw [Int.tmod_eq_emod_of_nonneg (by omega)];have:=(daz b i).1 ht;omega),u64_xor _ _ (by omega) (by omega)];rwa [show cmN a b (i+1)=if b.testBit i then cmN a b i^^^(a*2^i) else cmN a b i from rfl,Ya ht] at ih'
   ·rw [Yb (fun h=>ht ((daz b i).2 (by rw [Int.tmod_eq_emod_of_nonneg (by omega)] at h;omega)))];rwa [show cmN a b (i+1)=if b.testBit i then cmN a b i^^^(a*2^i) else cmN a b i from rfl,Yb ht] at ih'
theorem rmul_f (a b n k:Nat) (ha:a<2^16) (hb:b<2^n) (hn:n<=16) (hk:n<k):aIz.f k (a:Int) (b:Int)=some ((cmN a b n:Nat):Int):=by
 have h:=rmul_l0 a b n ha hb hn n 0 k (by omega) hk;unfold aIz.f;rw [IntKind.wrap_u64,show ((a:Int) % 18446744073709551616)=(a:Int) by omega]
 simpa [cmN] using h
theorem rdeg_l0: ∀(m x k:Nat) (n:Int),2^m<=x->x<2^(m+1)->m+1<k->m<=40-> -1<=n->n+(m:Int)<=100->auz.l0 k (x:Int) n=some (n+(m:Int)+1)
 |0,x,k,n,h1,h2,hk,_,hn,hn2=>by
  obtain rfl:x=1:=by simp at h1 h2;omega
  obtain ⟨k,rfl⟩: ∃m,k=m+1+1:=⟨k - 2,by omega⟩;unfold auz.l0;rw [Ya (by omega),show IntKind.u64.wrap (Int.tdiv ((1:Nat):Int) 2)=0 from rfl];unfold auz.l0;rw [Yb (by omega),cVz (by omega) (by omega)];congr 1
  omega
 |m+1,x,k,n,h1,h2,hk,hm,hn,hn2=>by
  obtain ⟨k,rfl⟩: ∃m,k=m+1:=⟨k - 1,by omega⟩;have h3:x<2^64:=Zp h2 (Nat.pow_le_pow_right (by omega) (by omega));have hp:0<2^(m+1):=Nat.pow_pos (by omega);unfold auz.l0;rw [Ya (by omega),Int.tdiv_eq_ediv_of_nonneg (by omega),IntKind.wrap_u64,show ((x:Int) / 2 % 18446744073709551616)=((x / 2:Nat):Int) by omega,cVz (by omega) (by omega)];rw [rdeg_l0 m (x / 2) k (n+1) (by rw [Nat.pow_succ] at h1;omega) (by rw [Nat.pow_succ] at h2;omega) (by omega) (by omega) (by omega) (by omega)];congr 1
  omega
theorem rdeg_f (m x k:Nat) (h1:2^m<=x) (h2:x<2^(m+1)) (hk:m+1<k) (hm:m<=40):auz.f k (x:Int)=some (m:Int):=by
 unfold auz.f;rw [rdeg_l0 m x k (-1) h1 h2 hk hm (by omega) (by omega)];congr 1
 omega
theorem rdeg_0 (k:Nat) (hk:0<k):auz.f k ((0:Nat):Int)=some (-1):=by
 obtain ⟨k,rfl⟩: ∃m,k=m+1:=⟨k - 1,by omega⟩;unfold auz.f auz.l0;rw [Yb (by omega)]
theorem rpow_l0 (n:Nat) (hn:n<=40): ∀(j i k:Nat),i+j=n->j<k->aFz.l0 k (n:Int) ((2^i:Nat):Int) (i:Int)=some ((2^n:Nat):Int):=by
 intro j
 induction j with
 |zero=>
  intro i k hi hk;obtain ⟨k,rfl⟩: ∃m,k=m+1:=⟨k - 1,by omega⟩;obtain rfl:i=n:=by omega
  unfold aFz.l0;rw [Yb (by omega)]
 |succ j ih=>
  intro i k hi hk;obtain ⟨k,rfl⟩: ∃m,k=m+1:=⟨k - 1,by omega⟩;have l1:2^i<2^63:=Nat.pow_lt_pow_right (by omega) (by omega);have e3:IntKind.u64.wrap (2*((2^i:Nat):Int))=((2^(i+1):Nat):Int):=by rw [IntKind.wrap_u64,Nat.pow_succ];omega
  unfold aFz.l0;rw [Ya (by omega),e3,cVz (by omega) (by omega)];exact ih (i+1) k (by omega) (by omega)
theorem rpow_f (n k:Nat) (hn:n<=40) (hk:n<k):aFz.f k (n:Int)=some ((2^n:Nat):Int):=rpow_l0 n hn n 0 k (by omega) hk
theorem rmod_l0 (q d:Nat) (hq:q<2^(d+1)) (hqd:q.testBit d=true) (hd:d<=16): ∀(n k a:Nat),n+60<k->d+n<=40->a<2^(d+n)->axz.l0 k (a:Int) (q:Int) (d:Int)=some ((redN q d n a:Nat):Int)
 |0,k,a,hk,_,ha=>by
  obtain ⟨k,rfl⟩: ∃m,k=m+1:=⟨k - 1,by omega⟩;have ha16:a<2^16:=Zp ha (Nat.pow_le_pow_right (by omega) (by omega))
  have hdeg: ∃t:Int,auz.f k (a:Int)=some t/\t<(d:Int):=by
   by_cases h0:a=0
   ·exact ⟨-1,by rw [h0];exact rdeg_0 k (by omega),by omega⟩
   ·refine ⟨_,rdeg_f a.log2 a k (Nat.log2_self_le h0) Nat.lt_log2_self (by have:=(Nat.log2_lt h0).2 ha16;omega) (by have:=(Nat.log2_lt h0).2 ha16;omega),?_⟩;have:=(Nat.log2_lt h0).2 ha;omega
  obtain ⟨t,ht,htd⟩:=hdeg;unfold axz.l0 redN;rw [ht,Zl,Yb (by omega),show ((a:Int) % 4294967296)=(a:Int) by omega]
 |n+1,k,a,hk,hn,ha=>by
  have ha40:a<2^40:=Zp ha (Nat.pow_le_pow_right (by omega) (by omega));unfold redN;by_cases hb:a.testBit (d+n)=true
  ·obtain ⟨k,rfl⟩: ∃m,k=m+1:=⟨k - 1,by omega⟩;have hge:2^(d+n)<=a:=Nat.ge_two_pow_of_testBit hb;have hdeg:=rdeg_f (d+n) a k hge ha (by omega) (by omega);have hs:q*2^n<2^41:=Zp (cZz hq) (Nat.pow_le_pow_right (by omega) (by omega));have hq17:q<2^17:=Zp hq (Nat.pow_le_pow_right (by omega) (by omega));have hc:=clr1_lt hq hqd (d+n) a (by omega) ha
   have ec:clr1 q d (d+n) a=a^^^(q*2^n):=by
    unfold clr1;rw [Ya hb,show d+n - d=n by omega]
   have hcast:((q:Int)*((2^n:Nat):Int))=((q*2^n:Nat):Int):=by rw [Int.natCast_mul]
   unfold axz.l0;rw [hdeg,Zl,Ya (by omega),Zl,cVz (by omega) (by omega),show (((d+n:Nat):Int) - (d:Int))=(n:Int) by omega,rpow_f n k (by omega) (by omega),Zl];rw [show IntKind.u64.wrap (q:Int)=(q:Int) by rw [IntKind.wrap_u64];omega,hcast,show IntKind.u64.wrap ((q*2^n:Nat):Int)=((q*2^n:Nat):Int) by rw [IntKind.wrap_u64];omega,u64_xor _ _ (by omega) (by omega), <-ec];exact rmod_l0 q d hq hqd hd n k _ (by omega) (by omega) hc
  ·have hlt : a < 2 ^ (d + n) := by
    rw [bSz (show a<2^((d+n)+1) from ha)];simpa using hb
   have ec:clr1 q d (d+n) a=a:=by unfold clr1;rw [Yb hb]
   rw [ec];exact rmod_l0 q d hq hqd hd n k a (by omega) (by omega) hlt
theorem rmod_f (q d:Nat) (hq:q<2^(d+1)) (hqd:q.testBit d=true) (hd:d<=16) (n k a:Nat) (hk:n+60<k) (hn:d+n<=40) (ha:a<2^(d+n)):axz.f k (a:Int) (q:Int)=some ((redN q d n a:Nat):Int):=by
 have hq17:q<2^17:=Zp hq (Nat.pow_le_pow_right (by omega) (by omega));have hge:2^d<=q:=Nat.ge_two_pow_of_testBit hqd;have hp:0<2^d:=Nat.pow_pos (by omega);unfold axz.f;rw [Yb (by omega),IntKind.wrap_u64,show ((q:Int) % 18446744073709551616)=(q:Int) by omega,rdeg_f d q k hge hq (by omega) (by omega),Zl];exact rmod_l0 q d hq hqd hd n k a hk hn ha
theorem cm_lt1 (a b n:Nat) (hn:0<n) (ha:a<2^n):cmN a b n<2^(n+(n - 1)):=by
 obtain ⟨m,rfl⟩: ∃m,n=m+1:=⟨n - 1,by omega⟩;have h1:cmN a b m<2^(m+1+m):=cmN_lt a b (m+1) ha m;have h2:a*2^m<2^(m+1+m):=cZz ha;rw [Nat.add_sub_cancel];unfold cmN;split
 ·exact Nat.xor_lt_two_pow h1 h2
 ·exact h1
theorem rmm8 (k a b:Nat) (hk:100<=k) (ha:a<256) (hb:b<256):((aIz.f k (a:Int) (b:Int)).bind fun t=>((axz.f k t 285).bind fun u=>some u))=some ((gm 7 285 a b:Nat):Int):=by
 rw [rmul_f a b 8 k (by omega) (by omega) (by omega) (by omega),Zl,show (285:Int)=((285:Nat):Int) from rfl,rmod_f 285 8 (by decide) (by decide) (by omega) 7 k _ (by omega) (by omega) (cm_lt1 a b 8 (by omega) (by omega)),Zl,cm_gm8 a b ha hb]
theorem rmm16 (k a b:Nat) (hk:100<=k) (ha:a<65536) (hb:b<65536):((aIz.f k (a:Int) (b:Int)).bind fun t=>((axz.f k t 69643).bind fun u=>some u))=some ((gm 15 69643 a b:Nat):Int):=by
 rw [rmul_f a b 16 k (by omega) (by omega) (by omega) (by omega),Zl,show (69643:Int)=((69643:Nat):Int) from rfl,rmod_f 69643 16 (by decide) (by decide) (by omega) 15 k _ (by omega) (by omega) (cm_lt1 a b 16 (by omega) (by omega)),Zl,cm_gm16 a b ha hb]
theorem rsize_f (wb:Int) (hw:wb=8\/wb=16):awz.f 40 wb=some (fsize wb):=by
 rcases hw with rfl|rfl<;>decide+kernel
def bKz.f (k:Nat) (a0:Int) (a1:Int):Option (Bool):=if a1>=0 then ((awz.f k a0).bind fun t484=>(some (decide (a1<t484)))) else (some false)
theorem bKz.mono: ∀a0 a1 k,LeO (bKz.f k a0 a1) (bKz.f (k+1) a0 a1):=by
 intro a0 a1 k;unfold bKz.f
 repeat' with_reducible first|apply awz.mono|apply Yg|apply Yh|apply Yi|refine Yj ?_ fun _=>?_
theorem bKz.calls (k : Nat) (a0 : Int) (a1 : Int) (r : Bool) (w : World) (h : bKz.f k a0 a1 = some r) :
  Calls Tryz.prog 106 #[.int .i64 a0, .int .i64 a1] w fun e w'=>e= .returned (.bool r)/\Drawn0 w w':=by
 have H:=h;clear h;unfold bKz.f at H;by_cases c3:a1>=0
 ·rw [Ya c3] at H;have c3b0:decide (0<=a1)=true:=Zd c3;clear c3;obtain ⟨t484,A4,H⟩:=ob_ H
  (try dsimp only at H)
  obtain rfl:=Zn H;go_enter Tryz.func106,Tryz.ntmps106
  go_wp2_with (first|(go_at_call 156;(with_reducible refine (awz.calls k a0 t484 _ A4.out).mono ?_);rintro e w' ⟨rfl,⟨nd,rfl⟩⟩))
  go_ret;exact ⟨sd_,dn_⟩
 ·rw [Yb c3] at H;have c3b0:decide (0<=a1)=false:=Ze c3;clear c3;obtain rfl:=Zn H;go_enter Tryz.func106,Tryz.ntmps106;go_wp2;go_ret;exact ⟨sd_,dn_⟩
def afz.f (k:Nat) (a0:Int) (a1:Int):Option (Bool):=if a0=8\/a0=16 then some (inF a0 a1) else bKz.f k a0 a1
theorem afz.mono: ∀a0 a1 k,LeO (afz.f k a0 a1) (afz.f (k+1) a0 a1):=by
 intro a0 a1 k;unfold afz.f;exact LeO.ite (LeO.refl _) (bKz.mono _ _ _)
theorem afz.slow (k:Nat) (a0 a1:Int) (r:Bool) (h:afz.f k a0 a1=some r): ∃K,bKz.f K a0 a1=some r:=by
 unfold afz.f at h;by_cases hw:a0=8\/a0=16
 ·rw [Ya hw] at h;obtain rfl:=Zn h;refine ⟨40,?_⟩;unfold bKz.f inF;rw [rsize_f a0 hw,Zl];by_cases h0:a1>=0
  ·rw [Ya h0,Zd h0,Bool.true_and]
  ·rw [Yb h0,Ze h0,Bool.false_and]
 ·rw [Yb hw] at h;exact ⟨k,h⟩
theorem afz.calls (k:Nat) (a0:Int) (a1:Int) (r:Bool) (w:World) (h:afz.f k a0 a1=some r):
 Calls Tryz.prog 106 #[.int .i64 a0, .int .i64 a1] w fun e w'=>e= .returned (.bool r)/\Drawn0 w w':=by
 obtain ⟨K,hK⟩:=afz.slow k a0 a1 r h;exact bKz.calls K a0 a1 r w hK
mutual
def aez.j0:Nat->Int->List (List Int)->Bool->Option (Bool)
 |0,_,_,_=>none
 |k+1,x0,x1,x28=>if x28=true then (some false) else (aez.l0 k x0 x1 0)
def aez.l0:Nat->Int->List (List Int)->Int->Option (Bool)
 |0,_,_,_=>none
 |k+1,x0,x1,x5=>if x5<(x1.length:Int) then (if 0<=x5 then (if 0<(x1.length:Int) then (if ((rd_L4 x1 x5).length:Int)=((rd_L4 x1 0).length:Int) then (aez.l1 k x0 x1 x5 0) else (some false)) else (none)) else (none)) else (some true)
def aez.l1:Nat->Int->List (List Int)->Int->Int->Option (Bool)
 |0,_,_,_,_=>none
 |k+1,x0,x1,x5,x6=>if 0<=x5 then (if x5<(x1.length:Int) then (if x6<((rd_L4 x1 x5).length:Int) then (if 0<=x6 then ((afz.f k x0 (rd (rd_L4 x1 x5) x6)).bind fun t452=>(if t452=true then (aez.l1 k x0 x1 x5 (wrap64 (x6+1))) else (some false))) else (none)) else (aez.l0 k x0 x1 (wrap64 (x5+1)))) else (none)) else (none)
end
def aez.f (k:Nat) (a0:Int) (l1:List (List Int)):Option (Bool):=if (l1.length:Int)<1 then (aez.j0 k a0 l1 true) else (if (l1.length:Int)>20 then (aez.j0 k a0 l1 true) else (if 0<(l1.length:Int) then (if ((rd_L4 l1 0).length:Int)<1 then (aez.j0 k a0 l1 true) else (aez.j0 k a0 l1 (decide (((rd_L4 l1 0).length:Int)>20)))) else (none)))
theorem aez.aXz: ∀k,(∀y0 y1 y2,LeO (aez.j0 k y0 y1 y2) (aez.j0 (k+1) y0 y1 y2))/\(∀y0 y1 y2,LeO (aez.l0 k y0 y1 y2) (aez.l0 (k+1) y0 y1 y2))/\(∀y0 y1 y2 y3,LeO (aez.l1 k y0 y1 y2 y3) (aez.l1 (k+1) y0 y1 y2 y3))
 |0=>⟨fun _ _ _ r h=>by simp [aez.j0] at h,fun _ _ _ r h=>by simp [aez.l0] at h,fun _ _ _ _ r h=>by simp [aez.l1] at h⟩
 |k+1=>by
  obtain ⟨ih0,ih1,ih2⟩:=aez.aXz k;refine ⟨?_,?_,?_⟩
  ·intro y0 y1 y2;unfold aez.j0
   repeat' with_reducible first|apply ih0|apply ih1|apply ih2|apply afz.mono|apply Yg|apply Yh|apply Yi|refine Yj ?_ fun _=>?_
  ·intro y0 y1 y2;unfold aez.l0
   repeat' with_reducible first|apply ih0|apply ih1|apply ih2|apply afz.mono|apply Yg|apply Yh|apply Yi|refine Yj ?_ fun _=>?_
  ·intro y0 y1 y2 y3;unfold aez.l1
   repeat' with_reducible first|apply ih0|apply ih1|apply ih2|apply afz.mono|apply Yg|apply Yh|apply Yi|refine Yj ?_ fun _=>?_
theorem aez.mono: ∀a0 a1 k,LeO (aez.f k a0 a1) (aez.f (k+1) a0 a1):=by
 intro a0 a1 k;obtain ⟨ih0,ih1,ih2⟩:=aez.aXz k;unfold aez.f
 repeat' with_reducible first|apply ih0|apply ih1|apply ih2|apply afz.mono|apply Yg|apply Yh|apply Yi|refine Yj ?_ fun _=>?_
theorem aez.calls (k : Nat) (a0 : Int) (A1 : Option Addr) (c1 : Nat) (l1 : List (List Int)) (r : Bool) (w : World) (hr1 : Kd.C (Kd.slice 3 (Kd.int .i64)) w A1 l1.length l1) (hc1 : l1.length <= c1) (h : aez.f k a0 l1 = some r) :
  Calls Tryz.prog 98 #[.int .i64 a0, .slice A1 l1.length c1] w fun e w'=>e= .returned (.bool r)/\Drawn0 w w':=by
 have HR1:=Za hr1;have HC1:=Za hc1;clear hr1 hc1;have H:=h;clear h;unfold aez.f at H;have HC3:=Za H;clear H;go_enter Tryz.func98,Tryz.ntmps98
 go_upto_region 1 with (fail)
 repeat (go_quiet (fail);go_upto_region 1 with (fail))
 go_cut [28] (fun v28 wc=> ∃(kq:Nat) (x28_2:Bool),v28= .bool x28_2/\Aside0 (aez.j0 kq a0 l1 x28_2=some r)/\Aside0 (kq<=k)/\Drawn0 w wc)
 case first=>
  have H:=HC3.out;clear HC3;by_cases c4:(l1.length:Int)<1
  ·rw [Ya c4] at H;have c4b0:=Zd c4;have c4b1:decide (l1.length<1)=true:=Zd (by omega);clear c4
   (first|rw [c4b0] |(simp only [i64_w,i32_w];rw [c4b0])|skip)
   have H':=Za H;clear H;go_wp2
   repeat (go_quiet (fail);try go_wp2)
   go_meet
   case rel=>exact ⟨_,(true),sd_,H',⟨by first|omega|exact Zv _⟩,dn_⟩
  ·rw [Yb c4] at H;have c4b0:=Ze c4;have c4b1:decide (l1.length<1)=false:=Ze (by omega);clear c4
   (first|rw [c4b0] |(simp only [i64_w,i32_w];rw [c4b0])|skip)
   by_cases c5:(l1.length:Int)>20
   ·rw [Ya c5] at H;have c5b0:decide (20<(l1.length:Int))=true:=Zd c5;have c5b1:decide (20<l1.length)=true:=Zd (by omega);clear c5;have H':=Za H;clear H;go_wp2
    repeat (go_quiet (fail);try go_wp2)
    go_meet
    case rel=>exact ⟨_,(true),sd_,H',⟨by first|omega|exact Zv _⟩,dn_⟩
   ·rw [Yb c5] at H;have c5b0:decide (20<(l1.length:Int))=false:=Ze c5;have c5b1:decide (20<l1.length)=false:=Ze (by omega);clear c5;by_cases c6:0<(l1.length:Int)
    rotate_left
    ·rw [Yb c6] at H;exact Yf H (by simp)
    rw [Ya c6] at H;have c6b0:=Zd c6;have c6b1:decide (0<l1.length)=true:=Zd (by omega);clear c6;by_cases c7:((rd_L4 l1 0).length:Int)<1
    ·rw [Ya c7] at H;have c7b0:=Zd c7;have c7b1:decide ((rd_L4 l1 0).length<1)=true:=Zd (by omega);clear c7;have H':=Za H;clear H;have p445:0<=(0:Int):=(by omega);have q445:0<(l1.length:Int):=Zc as_;obtain ⟨ad445,A445_0,c445_0,e445,hx445_0,hl445_0,hi445_0⟩:=at_L4 HR1.out 0 p445 q445;cases e445
     have qi445:(0<l1.length)=True:=Zz (by omega)
     (try rw [show ((0:Int)).toNat=0 from rfl] at hx445_0)
     (try rw [Addr.add_zero'] at hx445_0)
     have HR445_0:=Za hi445_0;have HC445_0:=Za hl445_0;clear hi445_0 hl445_0;replace p445:=Zz p445;replace q445:=Zz q445;go_wp2
     repeat (go_quiet (fail);try go_wp2)
     go_meet
     case rel=>exact ⟨_,(true),sd_,H',⟨by first|omega|exact Zv _⟩,dn_⟩
    ·rw [Yb c7] at H;have c7b0:=Ze c7;have c7b1:decide ((rd_L4 l1 0).length<1)=false:=Ze (by omega);clear c7;have H':=Za H;clear H;have p445:0<=(0:Int):=(by omega);have q445:0<(l1.length:Int):=Zc as_;obtain ⟨ad445,A445_0,c445_0,e445,hx445_0,hl445_0,hi445_0⟩:=at_L4 HR1.out 0 p445 q445;cases e445
     have qi445:(0<l1.length)=True:=Zz (by omega)
     (try rw [show ((0:Int)).toNat=0 from rfl] at hx445_0)
     (try rw [Addr.add_zero'] at hx445_0)
     have HR445_0:=Za hi445_0;have HC445_0:=Za hl445_0;clear hi445_0 hl445_0;replace p445:=Zz p445;replace q445:=Zz q445;have p446:0<=(0:Int):=(by omega);have q446:0<(l1.length:Int):=Zc as_;obtain ⟨ad446,A446_0,c446_0,e446,hx446_0,hl446_0,hi446_0⟩:=at_L4 HR1.out 0 p446 q446;obtain rfl:ad445=ad446:=(by injection e446);have qi446:(0<l1.length)=True:=Zz (by omega)
     (try rw [show ((0:Int)).toNat=0 from rfl] at hx446_0)
     (try rw [Addr.add_zero'] at hx446_0)
     have HR446_0:=Za hi446_0;have HC446_0:=Za hl446_0;clear hi446_0 hl446_0;replace p446:=Zz p446;replace q446:=Zz q446;have ea_:=Zn (hx445_0.symm.trans hx446_0);injection ea_ with ea_ en_ ec_
     subst ea_;subst ec_;clear en_;go_wp2
     repeat (go_quiet (fail);try go_wp2)
     go_meet
     case rel=>exact ⟨_,(decide (((rd_L4 l1 0).length:Int)>20)),sd_,H',⟨by first|omega|exact Zv _⟩,dn_⟩
 case rest=>
  clear HC3;obtain ⟨kq,x28_2,rfl,HA,HJ2,⟨mc2,rfl⟩⟩:=hcut;rcases kq with _|kj2
  ·exact Yf HA.out (by simp [aez.j0])
  have H:=HA.out;clear HA;simp only [aez.j0] at H;by_cases c8:x28_2=true
  ·subst c8;rw [Ya rfl] at H;obtain rfl:=Zn H;go_wp2
   repeat (go_quiet (fail);try go_wp2)
   go_ret;exact ⟨sd_,dn_⟩
  ·replace c8:=Zr c8;subst c8;rw [Yb (show¬(false=true) by decide)] at H;have H':=Za H;clear H;go_wp2
   repeat (go_quiet (fail);try go_wp2)
   go_loopg [5] kj2 (fun kq v5 w'=> ∃(x5_2:Int),v5= .int .i64 x5_2/\Aside0 (aez.l0 kq a0 l1 x5_2=some r)/\Aside0 (kq<=kj2)/\Drawn0 w w')
   case atStart=>exact ⟨(0),sd_,H',⟨Zv _⟩,dn_⟩
   clear H';obtain ⟨x5_2,rfl,HA,HK2,⟨m2,rfl⟩⟩:=hrel;rcases gk with _|k2
   ·exact Yf HA.out (by simp [aez.l0])
   have H:=HA.out;clear HA;simp only [aez.l0] at H;by_cases c9:x5_2<(l1.length:Int)
   rotate_left
   ·rw [Yb c9] at H;have c9b0:=Ze c9;clear c9;obtain rfl:=Zn H;go_wp2
    repeat (go_quiet (fail);try go_wp2)
    go_ret;exact ⟨sd_,dn_⟩
   rw [Ya c9] at H;have c9b0:=Zd c9;clear c9;by_cases c10:0<=x5_2
   rotate_left
   ·rw [Yb c10] at H;exact Yf H (by simp)
   rw [Ya c10] at H;have c10b0:=Zd c10;clear c10;by_cases c11:0<(l1.length:Int)
   rotate_left
   ·rw [Yb c11] at H;exact Yf H (by simp)
   rw [Ya c11] at H;have c11b0:=Zd c11;have c11b1:decide (0<l1.length)=true:=Zd (by omega);clear c11;by_cases c12:((rd_L4 l1 x5_2).length:Int)=((rd_L4 l1 0).length:Int)
   rotate_left
   ·rw [Yb c12] at H;have c12b0:(((rd_L4 l1 x5_2).length:Int)==((rd_L4 l1 0).length:Int))=false:=Zq c12;have c12b1:(((rd_L4 l1 x5_2).length:Int) !=((rd_L4 l1 0).length:Int))=true:=Yd c12
    have c12b2:((rd_L4 l1 x5_2).length==(rd_L4 l1 0).length)=false:=by first|simpa using c12|(simp at c12|-;omega)
    obtain rfl:=Zn H;have p447:0<=(x5_2:Int):=Zc as_;have q447:x5_2<(l1.length:Int):=Zc as_;obtain ⟨ad447,A447_0,c447_0,e447,hx447_0,hl447_0,hi447_0⟩:=at_L4 HR1.out x5_2 p447 q447;cases e447
    have HR447_0:=Za hi447_0;have HC447_0:=Za hl447_0;clear hi447_0 hl447_0;replace p447:=Zz p447;replace q447:=Zz q447;have p448:0<=(0:Int):=(by omega);have q448:0<(l1.length:Int):=Zc as_;obtain ⟨ad448,A448_0,c448_0,e448,hx448_0,hl448_0,hi448_0⟩:=at_L4 HR1.out 0 p448 q448;obtain rfl:ad447=ad448:=(by injection e448);have qi448:(0<l1.length)=True:=Zz (by omega)
    (try rw [show ((0:Int)).toNat=0 from rfl] at hx448_0)
    (try rw [Addr.add_zero'] at hx448_0)
    have HR448_0:=Za hi448_0;have HC448_0:=Za hl448_0;clear hi448_0 hl448_0;replace p448:=Zz p448;replace q448:=Zz q448;go_wp2
    repeat (go_quiet (fail);try go_wp2)
    go_ret;exact ⟨sd_,dn_⟩
   rw [Ya c12] at H;have c12b0:(((rd_L4 l1 x5_2).length:Int)==((rd_L4 l1 0).length:Int))=true:=Ye c12;have c12b1:(((rd_L4 l1 x5_2).length:Int) !=((rd_L4 l1 0).length:Int))=false:=Yc c12
   have c12b2:((rd_L4 l1 x5_2).length==(rd_L4 l1 0).length)=true:=by first|simpa using c12|(simp at c12|-;omega)
   clear c12;have H':=Za H;clear H;have p447:0<=(x5_2:Int):=Zc as_;have q447:x5_2<(l1.length:Int):=Zc as_;obtain ⟨ad447,A447_0,c447_0,e447,hx447_0,hl447_0,hi447_0⟩:=at_L4 HR1.out x5_2 p447 q447;cases e447
   have HR447_0:=Za hi447_0;have HC447_0:=Za hl447_0;clear hi447_0 hl447_0;replace p447:=Zz p447;replace q447:=Zz q447;have p448:0<=(0:Int):=(by omega);have q448:0<(l1.length:Int):=Zc as_;obtain ⟨ad448,A448_0,c448_0,e448,hx448_0,hl448_0,hi448_0⟩:=at_L4 HR1.out 0 p448 q448;obtain rfl:ad447=ad448:=(by injection e448);have qi448:(0<l1.length)=True:=Zz (by omega)
   (try rw [show ((0:Int)).toNat=0 from rfl] at hx448_0)
   (try rw [Addr.add_zero'] at hx448_0)
   have HR448_0:=Za hi448_0;have HC448_0:=Za hl448_0;clear hi448_0 hl448_0;replace p448:=Zz p448;replace q448:=Zz q448;go_wp2
   repeat (go_quiet (fail);try go_wp2)
   go_loopg [6] k2 (fun kq v6 w'=> ∃(x6_3:Int),v6= .int .i64 x6_3/\Aside0 (aez.l1 kq a0 l1 x5_2 x6_3=some r)/\Aside0 (kq<=k2)/\Drawn0 w w')
   case atStart=>exact ⟨(0),sd_,H',⟨Zv _⟩,dn_⟩
   clear H';clear c9b0 c10b0 c11b0 c11b1 c12b0 c12b1 c12b2 hx447_0 hx448_0 p447 p448 q447 q448;obtain ⟨x6_3,rfl,HA,HK3,⟨m3,rfl⟩⟩:=hrel;rcases gk with _|k3
   ·exact Yf HA.out (by simp [aez.l1])
   have H:=HA.out;clear HA;simp only [aez.l1] at H;by_cases c13:0<=x5_2
   rotate_left
   ·rw [Yb c13] at H;exact Yf H (by simp)
   rw [Ya c13] at H;have c13b0:=Zd c13;clear c13;by_cases c14:x5_2<(l1.length:Int)
   rotate_left
   ·rw [Yb c14] at H;exact Yf H (by simp)
   rw [Ya c14] at H;have c14b0:=Zd c14;clear c14;by_cases c15:x6_3<((rd_L4 l1 x5_2).length:Int)
   rotate_left
   ·rw [Yb c15] at H;have c15b0:=Ze c15;clear c15;have H':=Za H;clear H;have p449:0<=(x5_2:Int):=Zc as_;have q449:x5_2<(l1.length:Int):=Zc as_;obtain ⟨ad449,A449_0,c449_0,e449,hx449_0,hl449_0,hi449_0⟩:=at_L4 HR1.out x5_2 p449 q449;obtain rfl:ad447=ad449:=(by injection e449);have HR449_0:=Za hi449_0;have HC449_0:=Za hl449_0;clear hi449_0 hl449_0;replace p449:=Zz p449;replace q449:=Zz q449;go_wp2
    repeat (go_quiet (fail);try go_wp2)
    go_roundg k3
    case measure=>have:=HJ2.out;have:=HK2.out;have:=HK3.out;omega
    case rel=>exact ⟨(wrap64 (x5_2+1)),sd_,H',⟨by have:=HJ2.out;have:=HK2.out;have:=HK3.out;omega⟩,dn_⟩
   rw [Ya c15] at H;have c15b0:=Zd c15;clear c15;by_cases c16:0<=x6_3
   rotate_left
   ·rw [Yb c16] at H;exact Yf H (by simp)
   rw [Ya c16] at H;have c16b0:=Zd c16;clear c16;obtain ⟨t452,A17,H⟩:=ob_ H
   (try dsimp only at H)
   by_cases c18:t452=true
   rotate_left
   ·replace c18:=Zr c18;subst c18;rw [Yb (show¬(false=true) by decide)] at H;obtain rfl:=Zn H;have p449:0<=(x5_2:Int):=Zc as_;have q449:x5_2<(l1.length:Int):=Zc as_;obtain ⟨ad449,A449_0,c449_0,e449,hx449_0,hl449_0,hi449_0⟩:=at_L4 HR1.out x5_2 p449 q449;obtain rfl:ad447=ad449:=(by injection e449);have HR449_0:=Za hi449_0;have HC449_0:=Za hl449_0;clear hi449_0 hl449_0;replace p449:=Zz p449;replace q449:=Zz q449;have p450:0<=(x5_2:Int):=Zc as_;have q450:x5_2<(l1.length:Int):=Zc as_;obtain ⟨ad450,A450_0,c450_0,e450,hx450_0,hl450_0,hi450_0⟩:=at_L4 HR1.out x5_2 p450 q450;obtain rfl:ad447=ad450:=(by injection e450);have HR450_0:=Za hi450_0;have HC450_0:=Za hl450_0;clear hi450_0 hl450_0;replace p450:=Zz p450;replace q450:=Zz q450;have ea_:=Zn (hx449_0.symm.trans hx450_0);injection ea_ with ea_ en_ ec_
    subst ea_;subst ec_;clear en_;have p451:0<=(x6_3:Int):=Zc as_;have q451:x6_3<((rd_L4 l1 x5_2).length:Int):=Zc as_;obtain ⟨_,e451,hx451_0⟩:=Kd.boz HR450_0.out x6_3 p451 q451;cases e451
    replace p451:=Zz p451;replace q451:=Zz q451
    go_wp2_with (first|(go_at_call 106;(with_reducible refine (afz.calls k3 a0 (rd (rd_L4 l1 x5_2) x6_3) false _ A17.out).mono ?_);rintro e w' ⟨rfl,⟨nd,rfl⟩⟩;(try first|exact ⟨rfl,_,World.drewN_drewN _ _ _⟩|exact ⟨rfl,_,Eq.trans (World.drewN_drewN _ _ _) (congrArg (World.drewN _) (Nat.add_assoc _ _ _))⟩)))
    repeat (go_quiet (first|(go_at_call 106;(with_reducible refine (afz.calls k3 a0 (rd (rd_L4 l1 x5_2) x6_3) false _ A17.out).mono ?_);rintro e w' ⟨rfl,⟨nd,rfl⟩⟩;(try first|exact ⟨rfl,_,World.drewN_drewN _ _ _⟩|exact ⟨rfl,_,Eq.trans (World.drewN_drewN _ _ _) (congrArg (World.drewN _) (Nat.add_assoc _ _ _))⟩)));try go_wp2_with (first|(go_at_call 106;(with_reducible refine (afz.calls k3 a0 (rd (rd_L4 l1 x5_2) x6_3) false _ A17.out).mono ?_);rintro e w' ⟨rfl,⟨nd,rfl⟩⟩;(try first|exact ⟨rfl,_,World.drewN_drewN _ _ _⟩|exact ⟨rfl,_,Eq.trans (World.drewN_drewN _ _ _) (congrArg (World.drewN _) (Nat.add_assoc _ _ _))⟩))))
    go_ret;exact ⟨sd_,dn_⟩
   subst c18;rw [Ya rfl] at H;have H':=Za H;clear H;have p449:0<=(x5_2:Int):=Zc as_;have q449:x5_2<(l1.length:Int):=Zc as_;obtain ⟨ad449,A449_0,c449_0,e449,hx449_0,hl449_0,hi449_0⟩:=at_L4 HR1.out x5_2 p449 q449;obtain rfl:ad447=ad449:=(by injection e449);have HR449_0:=Za hi449_0;have HC449_0:=Za hl449_0;clear hi449_0 hl449_0;replace p449:=Zz p449;replace q449:=Zz q449;have p450:0<=(x5_2:Int):=Zc as_;have q450:x5_2<(l1.length:Int):=Zc as_;obtain ⟨ad450,A450_0,c450_0,e450,hx450_0,hl450_0,hi450_0⟩:=at_L4 HR1.out x5_2 p450 q450;obtain rfl:ad447=ad450:=(by injection e450);have HR450_0:=Za hi450_0;have HC450_0:=Za hl450_0;clear hi450_0 hl450_0;replace p450:=Zz p450;replace q450:=Zz q450;have ea_:=Zn (hx449_0.symm.trans hx450_0);injection ea_ with ea_ en_ ec_
   subst ea_;subst ec_;clear en_;have p451:0<=(x6_3:Int):=Zc as_;have q451:x6_3<((rd_L4 l1 x5_2).length:Int):=Zc as_;obtain ⟨_,e451,hx451_0⟩:=Kd.boz HR450_0.out x6_3 p451 q451;cases e451
   replace p451:=Zz p451;replace q451:=Zz q451
   go_wp2_with (first|(go_at_call 106;(with_reducible refine (afz.calls k3 a0 (rd (rd_L4 l1 x5_2) x6_3) true _ A17.out).mono ?_);rintro e w' ⟨rfl,⟨nd,rfl⟩⟩;(try first|exact ⟨rfl,_,World.drewN_drewN _ _ _⟩|exact ⟨rfl,_,Eq.trans (World.drewN_drewN _ _ _) (congrArg (World.drewN _) (Nat.add_assoc _ _ _))⟩)))
   repeat (go_quiet (first|(go_at_call 106;(with_reducible refine (afz.calls k3 a0 (rd (rd_L4 l1 x5_2) x6_3) true _ A17.out).mono ?_);rintro e w' ⟨rfl,⟨nd,rfl⟩⟩;(try first|exact ⟨rfl,_,World.drewN_drewN _ _ _⟩|exact ⟨rfl,_,Eq.trans (World.drewN_drewN _ _ _) (congrArg (World.drewN _) (Nat.add_assoc _ _ _))⟩)));try go_wp2_with (first|(go_at_call 106;(with_reducible refine (afz.calls k3 a0 (rd (rd_L4 l1 x5_2) x6_3) true _ A17.out).mono ?_);rintro e w' ⟨rfl,⟨nd,rfl⟩⟩;(try first|exact ⟨rfl,_,World.drewN_drewN _ _ _⟩|exact ⟨rfl,_,Eq.trans (World.drewN_drewN _ _ _) (congrArg (World.drewN _) (Nat.add_assoc _ _ _))⟩))))
   go_roundg k3
   case measure=>have:=HJ2.out;have:=HK2.out;have:=HK3.out;omega
   case rel=>exact ⟨(wrap64 (x6_3+1)),sd_,H',⟨by have:=HJ2.out;have:=HK2.out;have:=HK3.out;omega⟩,dn_⟩
def bCz.f (k:Nat) (a0:Int) (a1:Int) (a2:Int):Option (Int):=(aIz.f k a0 a1).bind fun t499=>((axz.f k t499 a2).bind fun t500=>(some t500))
theorem bCz.mono: ∀a0 a1 a2 k,LeO (bCz.f k a0 a1 a2) (bCz.f (k+1) a0 a1 a2):=by
 intro a0 a1 a2 k;unfold bCz.f
 repeat' with_reducible first|apply axz.mono|apply aIz.mono|apply Yg|apply Yh|apply Yi|refine Yj ?_ fun _=>?_
theorem bCz.calls (k : Nat) (a0 : Int) (a1 : Int) (a2 : Int) (r : Int) (w : World) (h : bCz.f k a0 a1 a2 = some r) :
  Calls Tryz.prog 157 #[.int .u32 a0, .int .u32 a1, .int .u32 a2] w fun e w'=>e= .returned (.int .u32 r)/\Drawn0 w w':=by
 have H:=h;clear h;unfold bCz.f at H;obtain ⟨t499,A4,H⟩:=ob_ H
 (try dsimp only at H)
 obtain ⟨t500,A5,H⟩:=ob_ H
 (try dsimp only at H)
 obtain rfl:=Zn H;go_enter Tryz.func157,Tryz.ntmps157
 go_wp2_with (first|((with_reducible refine aaz (f:=181) rfl ?_);refine gl_ (some 9) Tryz.func181 #[.int .u32 a0, .int .u32 a1] ?_;(with_reducible refine (aIz.calls k a0 a1 t499 _ A4.out).mono ?_);rintro e w' ⟨rfl,⟨nd,rfl⟩⟩;refine ⟨_,rfl,?_⟩)|((with_reducible refine aaz (f:=180) rfl ?_);refine gl_ (some 11) Tryz.func180 #[.int .u64 t499, .int .u32 a2] ?_;(with_reducible refine (axz.calls k t499 a2 t500 _ A5.out).mono ?_);rintro e w' ⟨rfl,⟨nd,rfl⟩⟩;refine ⟨_,rfl,?_⟩))
 go_ret;exact ⟨sd_,dn_⟩
def aJz.f (k:Nat) (a0:Int) (a1:Int) (a2:Int):Option (Int):=if a2=285/\inF 8 a0=true/\inF 8 a1=true then some (gm 7 285 a0.toNat a1.toNat:Int) else if a2=69643/\inF 16 a0=true/\inF 16 a1=true then some (gm 15 69643 a0.toNat a1.toNat:Int) else bCz.f k a0 a1 a2
theorem aJz.mono: ∀a0 a1 a2 k,LeO (aJz.f k a0 a1 a2) (aJz.f (k+1) a0 a1 a2):=by
 intro a0 a1 a2 k;unfold aJz.f;exact LeO.ite (LeO.refl _) (LeO.ite (LeO.refl _) (bCz.mono _ _ _ _))
theorem aJz.slow (k:Nat) (a0 a1 a2 r:Int) (h:aJz.f k a0 a1 a2=some r): ∃K,bCz.f K a0 a1 a2=some r:=by
 unfold aJz.f at h;by_cases h1:a2=285/\inF 8 a0=true/\inF 8 a1=true
 ·rw [Ya h1] at h;obtain ⟨rfl,h2,h3⟩:=h1;obtain rfl:=Zn h;unfold inF at h2 h3;simp only [Bool.and_eq_true,decide_eq_true_eq,show fsize 8=256 from rfl] at h2 h3;refine ⟨100,?_⟩;have:=rmm8 100 a0.toNat a1.toNat (Zv _) (by omega) (by omega);rw [show ((a0.toNat:Nat):Int)=a0 by omega,show ((a1.toNat:Nat):Int)=a1 by omega] at this;exact this
 ·rw [Yb h1] at h;by_cases h1:a2=69643/\inF 16 a0=true/\inF 16 a1=true
  ·rw [Ya h1] at h;obtain ⟨rfl,h2,h3⟩:=h1;obtain rfl:=Zn h;unfold inF at h2 h3;simp only [Bool.and_eq_true,decide_eq_true_eq,show fsize 16=65536 from rfl] at h2 h3;refine ⟨100,?_⟩;have:=rmm16 100 a0.toNat a1.toNat (Zv _) (by omega) (by omega);rw [show ((a0.toNat:Nat):Int)=a0 by omega,show ((a1.toNat:Nat):Int)=a1 by omega] at this;exact this
  ·rw [Yb h1] at h;exact ⟨k,h⟩
theorem aJz.calls (k:Nat) (a0:Int) (a1:Int) (a2:Int) (r:Int) (w:World) (h:aJz.f k a0 a1 a2=some r):
 Calls Tryz.prog 157 #[.int .u32 a0, .int .u32 a1, .int .u32 a2] w fun e w'=>e= .returned (.int .u32 r)/\Drawn0 w w':=by
 obtain ⟨K,hK⟩:=aJz.slow k a0 a1 a2 r h;exact bCz.calls K a0 a1 a2 r w hK
def aQz.l0:Nat->Int->Int->Int->Int->Option (Int)
 |0,_,_,_,_=>none
 |k+1,x0,x1,x2,x7=>if x1>0 then (if (Int.tmod x1 2)=1 then ((aJz.f k x7 x0 x2).bind fun t460=>((aJz.f k x0 x0 x2).bind fun t461=>(aQz.l0 k t461 (IntKind.u64.wrap (Int.tdiv x1 2)) x2 t460))) else ((aJz.f k x0 x0 x2).bind fun t462=>(aQz.l0 k t462 (IntKind.u64.wrap (Int.tdiv x1 2)) x2 x7))) else (some x7)
def aQz.f (k:Nat) (a0:Int) (a1:Int) (a2:Int):Option (Int):=(axz.f k 1 a2).bind fun t459=>(aQz.l0 k a0 a1 a2 t459)
theorem aQz.aXz: ∀k,(∀y0 y1 y2 y3,LeO (aQz.l0 k y0 y1 y2 y3) (aQz.l0 (k+1) y0 y1 y2 y3))
 |0=>fun _ _ _ _ r h=>by simp [aQz.l0] at h
 |k+1=>by
  have ih0:=aQz.aXz k
  ·intro y0 y1 y2 y3;unfold aQz.l0
   repeat' with_reducible first|apply ih0|apply axz.mono|apply aJz.mono|apply Yg|apply Yh|apply Yi|refine Yj ?_ fun _=>?_
theorem aQz.mono: ∀a0 a1 a2 k,LeO (aQz.f k a0 a1 a2) (aQz.f (k+1) a0 a1 a2):=by
 intro a0 a1 a2 k;have ih0:=aQz.aXz k;unfold aQz.f
 repeat' with_reducible first|apply ih0|apply axz.mono|apply aJz.mono|apply Yg|apply Yh|apply Yi|refine Yj ?_ fun _=>?_
theorem aQz.calls (k : Nat) (a0 : Int) (a1 : Int) (a2 : Int) (r : Int) (w : World) (h : aQz.f k a0 a1 a2 = some r) :
  Calls Tryz.prog 188 #[.int .u32 a0, .int .u64 a1, .int .u32 a2] w fun e w'=>e= .returned (.int .u32 r)/\Drawn0 w w':=by
 have H:=h;clear h;unfold aQz.f at H;obtain ⟨t459,A4,H⟩:=ob_ H
 (try dsimp only at H)
 have H':=Za H;clear H;go_enter Tryz.func188,Tryz.ntmps188
 go_wp2_with (first|((with_reducible refine aaz (f:=180) rfl ?_);refine gl_ (some 9) Tryz.func180 #[.int .u64 1, .int .u32 a2] ?_;(with_reducible refine (axz.calls k 1 a2 t459 _ A4.out).mono ?_);rintro e w' ⟨rfl,⟨nd,rfl⟩⟩;refine ⟨_,rfl,?_⟩))
 go_loopg [0,1,7] k (fun kq v0 v1 v7 w'=> ∃(x0_1:Int) (x1_1:Int) (x7_1:Int),v0= .int .u32 x0_1/\v1= .int .u64 x1_1/\v7= .int .u32 x7_1/\Aside0 (aQz.l0 kq x0_1 x1_1 a2 x7_1=some r)/\Aside0 (kq<=k)/\Drawn0 w w')
 case atStart=>exact ⟨(a0),(a1),(t459),sd_,sd_,sd_,H',⟨Zv _⟩,dn_⟩
 clear H';obtain ⟨x0_1,x1_1,x7_1,rfl,rfl,rfl,HA,HK1,⟨m1,rfl⟩⟩:=hrel;rcases gk with _|k1
 ·exact Yf HA.out (by simp [aQz.l0])
 have H:=HA.out;clear HA;simp only [aQz.l0] at H;by_cases c5:x1_1>0
 rotate_left
 ·rw [Yb c5] at H;have c5b0:decide (0<x1_1)=false:=Ze c5;clear c5;obtain rfl:=Zn H;go_wp2;go_ret;exact ⟨sd_,dn_⟩
 rw [Ya c5] at H;have c5b0:decide (0<x1_1)=true:=Zd c5;clear c5;by_cases c6:(Int.tmod x1_1 2)=1
 rotate_left
 ·rw [Yb c6] at H;have c6b0:((Int.tmod x1_1 2)==1)=false:=Zq c6;have c6b1:((Int.tmod x1_1 2) !=1)=true:=Yd c6;obtain ⟨t462,A9,H⟩:=ob_ H
  (try dsimp only at H)
  have H':=Za H;clear H
  go_wp2_with (first|((with_reducible refine aaz (f:=157) rfl ?_);refine gl_ (some 22) Tryz.func157 #[.int .u32 x0_1, .int .u32 x0_1, .int .u32 a2] ?_;(with_reducible refine (aJz.calls k1 x0_1 x0_1 a2 t462 _ A9.out).mono ?_);rintro e w' ⟨rfl,⟨nd,rfl⟩⟩;refine ⟨_,rfl,?_⟩))
  go_roundg k1
  case measure=>have:=HK1.out;omega
  case rel=>exact ⟨(t462),(IntKind.u64.wrap (Int.tdiv x1_1 2)),(x7_1),sd_,sd_,sd_,H',⟨by have:=HK1.out;omega⟩,dn_⟩
 rw [Ya c6] at H;have c6b0:((Int.tmod x1_1 2)==1)=true:=Ye c6;have c6b1:((Int.tmod x1_1 2) !=1)=false:=Yc c6;clear c6;obtain ⟨t460,A7,H⟩:=ob_ H
 (try dsimp only at H)
 obtain ⟨t461,A8,H⟩:=ob_ H
 (try dsimp only at H)
 have H':=Za H;clear H
 go_wp2_with (first|((with_reducible refine aaz (f:=157) rfl ?_);refine gl_ (some 18) Tryz.func157 #[.int .u32 x7_1, .int .u32 x0_1, .int .u32 a2] ?_;(with_reducible refine (aJz.calls k1 x7_1 x0_1 a2 t460 _ A7.out).mono ?_);rintro e w' ⟨rfl,⟨nd,rfl⟩⟩;refine ⟨_,rfl,?_⟩)|((with_reducible refine aaz (f:=157) rfl ?_);refine gl_ (some 22) Tryz.func157 #[.int .u32 x0_1, .int .u32 x0_1, .int .u32 a2] ?_;(with_reducible refine (aJz.calls k1 x0_1 x0_1 a2 t461 _ A8.out).mono ?_);rintro e w' ⟨rfl,⟨nd,rfl⟩⟩;refine ⟨_,rfl,?_⟩))
 go_roundg k1
 case measure=>have:=HK1.out;omega
 case rel=>exact ⟨(t461),(IntKind.u64.wrap (Int.tdiv x1_1 2)),(t460),sd_,sd_,sd_,H',⟨by have:=HK1.out;omega⟩,dn_⟩
def aOz.f (k:Nat) (a0:Int) (a1:Int) (a2:Int) (a3:Int):Option (Int):=(afz.f k a0 a2).bind fun t463=>(if t463=true then (if a3<0 then (some 0) else ((aQz.f k ((a2) % 4294967296) (IntKind.u64.wrap (a3)) a1).bind fun t464=>(some (wrap64 (t464))))) else (some 0))
theorem aOz.mono: ∀a0 a1 a2 a3 k,LeO (aOz.f k a0 a1 a2 a3) (aOz.f (k+1) a0 a1 a2 a3):=by
 intro a0 a1 a2 a3 k;unfold aOz.f
 repeat' with_reducible first|apply aQz.mono|apply afz.mono|apply Yg|apply Yh|apply Yi|refine Yj ?_ fun _=>?_
theorem aOz.calls (k : Nat) (a0 : Int) (a1 : Int) (a2 : Int) (a3 : Int) (r : Int) (w : World) (h : aOz.f k a0 a1 a2 a3 = some r) :
  Calls Tryz.prog 168 #[.int .i64 a0, .int .u32 a1, .int .i64 a2, .int .i64 a3] w fun e w'=>e= .returned (.int .i64 r)/\Drawn0 w w':=by
 have H:=h;clear h;unfold aOz.f at H;obtain ⟨t463,A5,H⟩:=ob_ H
 (try dsimp only at H)
 by_cases c6:t463=true
 rotate_left
 ·replace c6:=Zr c6;subst c6;rw [Yb (show¬(false=true) by decide)] at H;obtain rfl:=Zn H;go_enter Tryz.func168,Tryz.ntmps168
  go_wp2_with (first|((with_reducible refine aaz (f:=106) rfl ?_);refine gl_ (some 11) Tryz.func106 #[.int .i64 a0, .int .i64 a2] ?_;(with_reducible refine (afz.calls k a0 a2 false _ A5.out).mono ?_);rintro e w' ⟨rfl,⟨nd,rfl⟩⟩;refine ⟨_,rfl,?_⟩))
  go_ret;exact ⟨sd_,dn_⟩
 subst c6;rw [Ya rfl] at H;by_cases c7:a3<0
 ·rw [Ya c7] at H;have c7b0:=Zd c7;clear c7;obtain rfl:=Zn H;go_enter Tryz.func168,Tryz.ntmps168
  go_wp2_with (first|((with_reducible refine aaz (f:=106) rfl ?_);refine gl_ (some 11) Tryz.func106 #[.int .i64 a0, .int .i64 a2] ?_;(with_reducible refine (afz.calls k a0 a2 true _ A5.out).mono ?_);rintro e w' ⟨rfl,⟨nd,rfl⟩⟩;refine ⟨_,rfl,?_⟩))
  go_ret;exact ⟨sd_,dn_⟩
 ·rw [Yb c7] at H;have c7b0:=Ze c7;clear c7;obtain ⟨t464,A8,H⟩:=ob_ H
  (try dsimp only at H)
  obtain rfl:=Zn H;go_enter Tryz.func168,Tryz.ntmps168
  go_wp2_with (first|((with_reducible refine aaz (f:=106) rfl ?_);refine gl_ (some 11) Tryz.func106 #[.int .i64 a0, .int .i64 a2] ?_;(with_reducible refine (afz.calls k a0 a2 true _ A5.out).mono ?_);rintro e w' ⟨rfl,⟨nd,rfl⟩⟩;refine ⟨_,rfl,?_⟩)|((with_reducible refine aaz (f:=188) rfl ?_);refine gl_ (some 22) Tryz.func188 #[.int .u32 ((a2) % 4294967296), .int .u64 (IntKind.u64.wrap (a3)), .int .u32 a1] ?_;(with_reducible refine (aQz.calls k ((a2) % 4294967296) (IntKind.u64.wrap (a3)) a1 t464 _ A8.out).mono ?_);rintro e w' ⟨rfl,⟨nd,rfl⟩⟩;refine ⟨_,rfl,?_⟩))
  go_ret;exact ⟨sd_,dn_⟩
def asz.j0:Nat->Int->Int->Int->Bool->Option (Int×Bool)
 |0,_,_,_,_=>none
 |k+1,x0,x1,x2,x15=>if x15=true then (some (0,false)) else ((awz.f k x0).bind fun t466=>((aOz.f k x0 x1 x2 (wrap64 (t466 - 2))).bind fun t467=>(some (t467,true))))
def asz.f (k:Nat) (a0:Int) (a1:Int) (a2:Int):Option (Int×Bool):=(afz.f k a0 a2).bind fun t465=>(if t465=true then (asz.j0 k a0 a1 a2 (a2==0)) else (asz.j0 k a0 a1 a2 true))
theorem asz.aXz: ∀k,(∀y0 y1 y2 y3,LeO (asz.j0 k y0 y1 y2 y3) (asz.j0 (k+1) y0 y1 y2 y3))
 |0=>fun _ _ _ _ r h=>by simp [asz.j0] at h
 |k+1=>by
  have ih0:=asz.aXz k
  ·intro y0 y1 y2 y3;unfold asz.j0
   repeat' with_reducible first|apply ih0|apply afz.mono|apply aOz.mono|apply awz.mono|apply Yg|apply Yh|apply Yi|refine Yj ?_ fun _=>?_
theorem asz.mono: ∀a0 a1 a2 k,LeO (asz.f k a0 a1 a2) (asz.f (k+1) a0 a1 a2):=by
 intro a0 a1 a2 k;have ih0:=asz.aXz k;unfold asz.f
 repeat' with_reducible first|apply ih0|apply afz.mono|apply aOz.mono|apply awz.mono|apply Yg|apply Yh|apply Yi|refine Yj ?_ fun _=>?_
theorem asz.calls (k : Nat) (a0 : Int) (a1 : Int) (a2 : Int) (r1 : Int) (r2 : Bool) (w : World) (h : asz.f k a0 a1 a2 = some (r1, r2)) :
  Calls Tryz.prog 146 #[.int .i64 a0, .int .u32 a1, .int .i64 a2] w fun e w'=>e= .returned (.tuple #[.int .i64 r1, .bool r2])/\Drawn0 w w':=by
 have H:=h;clear h;unfold asz.f at H;have HC4:=Za H;clear H;go_enter Tryz.func146,Tryz.ntmps146
 go_upto_region 1 with (fail)
 go_cut [15] (fun v15 wc=> ∃(kq:Nat) (x15_3:Bool),v15= .bool x15_3/\Aside0 (asz.j0 kq a0 a1 a2 x15_3=some (r1,r2))/\Aside0 (kq<=k)/\Drawn0 w wc)
 case first=>
  have H:=HC4.out;clear HC4;obtain ⟨t465,A5,H⟩:=ob_ H
  (try dsimp only at H)
  by_cases c6:t465=true
  ·subst c6;rw [Ya rfl] at H;have H':=Za H;clear H
   go_wp2_with (first|((with_reducible refine aaz (f:=106) rfl ?_);refine gl_ (some 10) Tryz.func106 #[.int .i64 a0, .int .i64 a2] ?_;(with_reducible refine (afz.calls k a0 a2 true _ A5.out).mono ?_);rintro e w' ⟨rfl,⟨nd,rfl⟩⟩;refine ⟨_,rfl,?_⟩))
   go_meet
   case rel=>exact ⟨_,((a2==0)),sd_,H',⟨by first|omega|exact Zv _⟩,dn_⟩
  ·replace c6:=Zr c6;subst c6;rw [Yb (show¬(false=true) by decide)] at H;have H':=Za H;clear H
   go_wp2_with (first|((with_reducible refine aaz (f:=106) rfl ?_);refine gl_ (some 10) Tryz.func106 #[.int .i64 a0, .int .i64 a2] ?_;(with_reducible refine (afz.calls k a0 a2 false _ A5.out).mono ?_);rintro e w' ⟨rfl,⟨nd,rfl⟩⟩;refine ⟨_,rfl,?_⟩))
   go_meet
   case rel=>exact ⟨_,(true),sd_,H',⟨by first|omega|exact Zv _⟩,dn_⟩
 case rest=>
  clear HC4;obtain ⟨kq,x15_3,rfl,HA,HJ3,⟨mc3,rfl⟩⟩:=hcut;rcases kq with _|kj3
  ·exact Yf HA.out (by simp [asz.j0])
  have H:=HA.out;clear HA;simp only [asz.j0] at H;by_cases c7:x15_3=true
  ·subst c7;rw [Ya rfl] at H;simp only [Zx,Zy] at H;obtain ⟨rfl,rfl⟩:=H;go_wp2;go_ret2;exact ⟨sd_,dn_⟩
  ·replace c7:=Zr c7;subst c7;rw [Yb (show¬(false=true) by decide)] at H;obtain ⟨t466,A8,H⟩:=ob_ H
   (try dsimp only at H)
   obtain ⟨t467,A9,H⟩:=ob_ H
   (try dsimp only at H)
   simp only [Zx,Zy] at H;obtain ⟨rfl,rfl⟩:=H
   go_wp2_with (first|((with_reducible refine aaz (f:=156) rfl ?_);refine gl_ (some 20) Tryz.func156 #[.int .i64 a0] ?_;(with_reducible refine (awz.calls kj3 a0 t466 _ A8.out).mono ?_);rintro e w' ⟨rfl,⟨nd,rfl⟩⟩;refine ⟨_,rfl,?_⟩)|((with_reducible refine aaz (f:=168) rfl ?_);refine gl_ (some 22) Tryz.func168 #[.int .i64 a0, .int .u32 a1, .int .i64 a2, .int .i64 (wrap64 (t466 - 2))] ?_;(with_reducible refine (aOz.calls kj3 a0 a1 a2 (wrap64 (t466 - 2)) t467 _ A9.out).mono ?_);rintro e w' ⟨rfl,⟨nd,rfl⟩⟩;refine ⟨_,rfl,?_⟩))
   go_ret2;exact ⟨sd_,dn_⟩
def aAz.f (k:Nat) (a0:Int) (a1:Int) (a2:Int) (a3:Int):Option (Int):=(afz.f k a0 a2).bind fun t468=>(if t468=true then ((afz.f k a0 a3).bind fun t469=>(if t469=true then ((aJz.f k ((a2) % 4294967296) ((a3) % 4294967296) a1).bind fun t470=>(some (wrap64 (t470)))) else (some 0))) else (some 0))
theorem aAz.mono: ∀a0 a1 a2 a3 k,LeO (aAz.f k a0 a1 a2 a3) (aAz.f (k+1) a0 a1 a2 a3):=by
 intro a0 a1 a2 a3 k;unfold aAz.f
 repeat' with_reducible first|apply aJz.mono|apply afz.mono|apply Yg|apply Yh|apply Yi|refine Yj ?_ fun _=>?_
theorem aAz.calls (k : Nat) (a0 : Int) (a1 : Int) (a2 : Int) (a3 : Int) (r : Int) (w : World) (h : aAz.f k a0 a1 a2 a3 = some r) :
  Calls Tryz.prog 107 #[.int .i64 a0, .int .u32 a1, .int .i64 a2, .int .i64 a3] w fun e w'=>e= .returned (.int .i64 r)/\Drawn0 w w':=by
 have H:=h;clear h;unfold aAz.f at H;obtain ⟨t468,A5,H⟩:=ob_ H
 (try dsimp only at H)
 by_cases c6:t468=true
 rotate_left
 ·replace c6:=Zr c6;subst c6;rw [Yb (show¬(false=true) by decide)] at H;obtain rfl:=Zn H;go_enter Tryz.func107,Tryz.ntmps107
  go_wp2_with (first|((with_reducible refine aaz (f:=106) rfl ?_);refine gl_ (some 11) Tryz.func106 #[.int .i64 a0, .int .i64 a2] ?_;(with_reducible refine (afz.calls k a0 a2 false _ A5.out).mono ?_);rintro e w' ⟨rfl,⟨nd,rfl⟩⟩;refine ⟨_,rfl,?_⟩))
  go_ret;exact ⟨sd_,dn_⟩
 subst c6;rw [Ya rfl] at H;obtain ⟨t469,A7,H⟩:=ob_ H
 (try dsimp only at H)
 by_cases c8:t469=true
 ·subst c8;rw [Ya rfl] at H;obtain ⟨t470,A9,H⟩:=ob_ H
  (try dsimp only at H)
  obtain rfl:=Zn H;go_enter Tryz.func107,Tryz.ntmps107
  go_wp2_with (first|((with_reducible refine aaz (f:=106) rfl ?_);refine gl_ (some 11) Tryz.func106 #[.int .i64 a0, .int .i64 a2] ?_;(with_reducible refine (afz.calls k a0 a2 true _ A5.out).mono ?_);rintro e w' ⟨rfl,⟨nd,rfl⟩⟩;refine ⟨_,rfl,?_⟩)|(go_at_call 106;(with_reducible refine (afz.calls k a0 a3 true _ A7.out).mono ?_);rintro e w' ⟨rfl,⟨nd,rfl⟩⟩)|((with_reducible refine aaz (f:=157) rfl ?_);refine gl_ (some 24) Tryz.func157 #[.int .u32 ((a2) % 4294967296), .int .u32 ((a3) % 4294967296), .int .u32 a1] ?_;(with_reducible refine (aJz.calls k ((a2) % 4294967296) ((a3) % 4294967296) a1 t470 _ A9.out).mono ?_);rintro e w' ⟨rfl,⟨nd,rfl⟩⟩;refine ⟨_,rfl,?_⟩))
  go_ret;exact ⟨sd_,dn_⟩
 ·replace c8:=Zr c8;subst c8;rw [Yb (show¬(false=true) by decide)] at H;obtain rfl:=Zn H;go_enter Tryz.func107,Tryz.ntmps107
  go_wp2_with (first|((with_reducible refine aaz (f:=106) rfl ?_);refine gl_ (some 11) Tryz.func106 #[.int .i64 a0, .int .i64 a2] ?_;(with_reducible refine (afz.calls k a0 a2 true _ A5.out).mono ?_);rintro e w' ⟨rfl,⟨nd,rfl⟩⟩;refine ⟨_,rfl,?_⟩)|(go_at_call 106;(with_reducible refine (afz.calls k a0 a3 false _ A7.out).mono ?_);rintro e w' ⟨rfl,⟨nd,rfl⟩⟩))
  go_ret;exact ⟨sd_,dn_⟩
def aKz.l0:Nat->Int->Int->List Int->Int->List Int->Int->Option (List Int)
 |0,_,_,_,_,_,_=>none
 |k+1,x0,x1,x2,x3,x9,x10=>if x10<(x2.length:Int) then (if 0<=x10 then ((aAz.f k x0 x1 (rd x2 x10) x3).bind fun t472=>(if x9.length<17592186044416 then (aKz.l0 k x0 x1 x2 x3 (x9++ [t472]) (wrap64 (x10+1))) else (none))) else (none)) else (some x9)
def aKz.f (k:Nat) (a0:Int) (a1:Int) (l2:List Int) (a3:Int):Option (List Int):=aKz.l0 k a0 a1 l2 a3 ([] :List Int) 0
theorem aKz.aXz: ∀k,(∀y0 y1 y2 y3 y4 y5,LeO (aKz.l0 k y0 y1 y2 y3 y4 y5) (aKz.l0 (k+1) y0 y1 y2 y3 y4 y5))
 |0=>fun _ _ _ _ _ _ r h=>by simp [aKz.l0] at h
 |k+1=>by
  have ih0:=aKz.aXz k
  ·intro y0 y1 y2 y3 y4 y5;unfold aKz.l0
   repeat' with_reducible first|apply ih0|apply aAz.mono|apply Yg|apply Yh|apply Yi|refine Yj ?_ fun _=>?_
theorem aKz.mono: ∀a0 a1 a2 a3 k,LeO (aKz.f k a0 a1 a2 a3) (aKz.f (k+1) a0 a1 a2 a3):=by
 intro a0 a1 a2 a3 k;have ih0:=aKz.aXz k;unfold aKz.f
 repeat' with_reducible first|apply ih0|apply aAz.mono|apply Yg|apply Yh|apply Yi|refine Yj ?_ fun _=>?_
theorem aKz.calls (k : Nat) (a0 : Int) (a1 : Int) (A2 : Option Addr) (c2 : Nat) (l2 : List Int) (a3 : Int) (r : List Int) (w : World) (hr2 : Kd.C (Kd.int .i64) w A2 l2.length l2) (hc2 : l2.length <= c2) (h : aKz.f k a0 a1 l2 a3 = some r) :
  Calls Tryz.prog 147 #[.int .i64 a0, .int .u32 a1, .slice A2 l2.length c2, .int .i64 a3] w fun e w'=> ∃v0_:Value,e= .returned (v0_)/\Kd.R (Kd.int .i64) 3 w' w.heap.size (fun _=>True) v0_ r/\Below w.heap.size w w':=by
 have HR2:=Za hr2;have HC2:=Za hc2;clear hr2 hc2;have HB:=Za (Zw w.heap.size w);have H:=h;clear h;unfold aKz.f at H;have H':=Za H;clear H;go_enter Tryz.func147,Tryz.ntmps147;go_wp2
 go_loopg [9,10] k (fun kq v9 v10 w'=> ∃(x9_1:List Int) (x10_1:Int),v10= .int .i64 x10_1/\Aside0 (aKz.l0 kq a0 a1 l2 a3 x9_1 x10_1=some r)/\Aside0 (kq<=k)/\Aside0 (Kd.R (Kd.int .i64) 3 w' w.heap.size (fun _=>True) v9 x9_1)/\Aside0 (Below w.heap.size w w'))
 case atStart=>exact ⟨(([] :List Int)),(0),sd_,H',⟨Zv _⟩,⟨nl_⟩,⟨bl_⟩⟩
 clear H';obtain ⟨x9_1,x10_1,rfl,HA,HK1,HO_9,HB⟩:=hrel;rcases gk with _|k1
 ·exact Yf HA.out (by simp [aKz.l0])
 have H:=HA.out;clear HA;simp only [aKz.l0] at H;by_cases c5:x10_1<(l2.length:Int)
 rotate_left
 ·rw [Yb c5] at H;have c5b0:=Ze c5;clear c5;obtain rfl:=Zn H;go_wp2;go_ret;exact ⟨_,er_,xd_ HO_9.out,bl_⟩
 rw [Ya c5] at H;have c5b0:=Zd c5;clear c5;by_cases c6:0<=x10_1
 rotate_left
 ·rw [Yb c6] at H;exact Yf H (by simp)
 rw [Ya c6] at H;have c6b0:=Zd c6;clear c6;obtain ⟨t472,A7,H⟩:=ob_ H
 (try dsimp only at H)
 by_cases c8:x9_1.length<17592186044416
 rotate_left
 ·rw [Yb c8] at H;exact Yf H (by simp)
 rw [Ya c8] at H;have LMc8:=Za c8;clear c8;obtain ⟨y473,hy473⟩: ∃y_:List Int,y_=(x9_1++ [t472]):=⟨_,rfl⟩
 first|rw [Zl, <-hy473] at H|rw [<-hy473] at H
 (try dsimp only at H)
 have Ny473:=Za hy473;clear hy473;have H':=Za H;clear H;have p471:0<=(x10_1:Int):=Zc as_;have q471:x10_1<(l2.length:Int):=Zc as_;obtain ⟨_,e471,hx471_0⟩:=Kd.boz HR2.out x10_1 p471 q471;cases e471
 replace hx471_0:=(HB.out.cell (Zj w _ hx471_0)).trans hx471_0;replace p471:=Zz p471;replace q471:=Zz q471
 go_wp2_with (first|((with_reducible refine aaz (f:=107) rfl ?_);refine gl_ (some 25) Tryz.func107 #[.int .i64 a0, .int .u32 a1, .int .i64 (rd l2 x10_1), .int .i64 a3] ?_;(with_reducible refine (aAz.calls k1 a0 a1 (rd l2 x10_1) a3 t472 _ A7.out).mono ?_);rintro e w' ⟨rfl,⟨nd,rfl⟩⟩;refine ⟨_,rfl,?_⟩)|((with_reducible refine aoz (b:= .append) (xs:= #[.tmp 17, .tmp 26]) rfl ?_);at_builtin;refine Kd.bmz (Kd.int .i64) (w0:=w) w.heap.size rfl (.tmp 17) (.tmp 26) 57 3 (.int .i64 0) 8 rfl Tryz.underlying57 info3 rfl (by decide) (by omega) u9 x9_1 t472 [.int .i64 t472] (fun _=>True) (fun _=>False) rfl rfl ?aP (fun _ hk=>hk.elim) ?aF ?aO ?aB ?aS ?aL ?_;(case aP=>exact rfl);(case aB=>exact bl_);(case aF=>exact (fun _ _=>trivial));(case aO=>exact (xd_ HO_9.out));(case aS=>exact (adz bl_));(case aL=>have:=LMc8.out;omega);intro v474 w9 ho hb hg hat;rw [<-Ny473.out] at ho;have n_:=Zb (Za (hb)) (Za (ho));clear HB HO_9;obtain ⟨HB,HO475⟩:=n_;clear ho hb hg hat))
 go_roundg k1
 case measure=>have:=HK1.out;omega
 case rel=>exact ⟨(y473),(wrap64 (x10_1+1)),sd_,H',⟨by have:=HK1.out;omega⟩,⟨xd_ HO475.out⟩,⟨bl_⟩⟩
def ayz.l0:Nat->List Int->List Int->List Int->Int->Option (List Int)
 |0,_,_,_,_=>none
 |k+1,x0,x1,x5,x6=>if x6<(x0.length:Int) then (if 0<=x6 then (if x6<(x1.length:Int) then (if x5.length<17592186044416 then (ayz.l0 k x0 x1 (x5++ [Go.bits .xor .i64 (rd x0 x6) (rd x1 x6)]) (wrap64 (x6+1))) else (none)) else (none)) else (none)) else (some x5)
def ayz.f (k:Nat) (l0:List Int) (l1:List Int):Option (List Int):=ayz.l0 k l0 l1 ([] :List Int) 0
theorem ayz.aXz: ∀k,(∀y0 y1 y2 y3,LeO (ayz.l0 k y0 y1 y2 y3) (ayz.l0 (k+1) y0 y1 y2 y3))
 |0=>fun _ _ _ _ r h=>by simp [ayz.l0] at h
 |k+1=>by
  have ih0:=ayz.aXz k
  ·intro y0 y1 y2 y3;unfold ayz.l0
   repeat' with_reducible first|apply ih0|apply Yg|apply Yh|apply Yi|refine Yj ?_ fun _=>?_
theorem ayz.mono: ∀a0 a1 k,LeO (ayz.f k a0 a1) (ayz.f (k+1) a0 a1):=by
 intro a0 a1 k;have ih0:=ayz.aXz k;unfold ayz.f
 repeat' with_reducible first|apply ih0|apply Yg|apply Yh|apply Yi|refine Yj ?_ fun _=>?_
def ayz.T5:Bool×List (List Nat×List Nat):=(true, [([], []),([], []),([], []),([1,2], [1,2]),([3], [3]),([], []),([], []),([5,6], [5,6]),([7], [7]),([4,8], [4,8]),([9], [9]),([0,10], [0,10]),([11,11,0,1,2,3,4,5,6,7,8,9,10,11], [0,11])])
def ayz.B5:List Nat:= [0,0,0,6,14,0,0,96,224,510,1022,2047,4095]
theorem ayz.tab5:rtab .any (opsOf Tryz.f148 5)=ayz.T5:=by kernel_rfl
theorem ayz.bits5:waitsOk ayz.T5.2 ayz.B5=true:=by kernel_rfl
theorem ayz.calls (k : Nat) (A0 : Option Addr) (c0 : Nat) (l0 : List Int) (A1 : Option Addr) (c1 : Nat) (l1 : List Int) (r : List Int) (w : World) (hr0 : Kd.C (Kd.int .i64) w A0 l0.length l0) (hc0 : l0.length <= c0) (hr1 : Kd.C (Kd.int .i64) w A1 l1.length l1) (hc1 : l1.length <= c1) (h : ayz.f k l0 l1 = some r) :
  Calls Tryz.prog 148 #[.slice A0 l0.length c0, .slice A1 l1.length c1] w fun e w'=> ∃v0_:Value,e= .returned (v0_)/\Kd.R (Kd.int .i64) 3 w' w.heap.size (fun _=>True) v0_ r/\Below w.heap.size w w':=by
 have HR0:=Za hr0;have HC0:=Za hc0;clear hr0 hc0;have HR1:=Za hr1;have HC1:=Za hc1;clear hr1 hc1;have HB:=Za (Zw w.heap.size w);have H:=h;clear h;unfold ayz.f at H;have H':=Za H;clear H;go_enter Tryz.func148,Tryz.ntmps148;go_wp2
 go_loopg [5,6] k (fun kq v5 v6 w'=> ∃(x5_1:List Int) (x6_1:Int),v6= .int .i64 x6_1/\Aside0 (ayz.l0 kq l0 l1 x5_1 x6_1=some r)/\Aside0 (kq<=k)/\Aside0 (Kd.R (Kd.int .i64) 3 w' w.heap.size (fun _=>True) v5 x5_1)/\Aside0 (Below w.heap.size w w'))
 case atStart=>exact ⟨(([] :List Int)),(0),sd_,H',⟨Zv _⟩,⟨nl_⟩,⟨bl_⟩⟩
 clear H';obtain ⟨x5_1,x6_1,rfl,HA,HK1,HO_5,HB⟩:=hrel;rcases gk with _|k1
 ·exact Yf HA.out (by simp [ayz.l0])
 have H:=HA.out;clear HA;simp only [ayz.l0] at H;by_cases c3:x6_1<(l0.length:Int)
 rotate_left
 ·rw [Yb c3] at H;have c3b0:=Ze c3;clear c3;obtain rfl:=Zn H;go_wp2;go_ret;exact ⟨_,er_,xd_ HO_5.out,bl_⟩
 rw [Ya c3] at H;have c3b0:=Zd c3;clear c3;by_cases c4:0<=x6_1
 rotate_left
 ·rw [Yb c4] at H;exact Yf H (by simp)
 rw [Ya c4] at H;have c4b0:=Zd c4;clear c4;by_cases c5:x6_1<(l1.length:Int)
 rotate_left
 ·rw [Yb c5] at H;exact Yf H (by simp)
 rw [Ya c5] at H;have c5b0:=Zd c5;clear c5;by_cases c6:x5_1.length<17592186044416
 rotate_left
 ·rw [Yb c6] at H;exact Yf H (by simp)
 rw [Ya c6] at H;have LMc6:=Za c6;clear c6;obtain ⟨y478,hy478⟩: ∃y_:List Int,y_=(x5_1++ [Go.bits .xor .i64 (rd l0 x6_1) (rd l1 x6_1)]):=⟨_,rfl⟩
 first|rw [Zl, <-hy478] at H|rw [<-hy478] at H
 (try dsimp only at H)
 have Ny478:=Za hy478;clear hy478;have H':=Za H;clear H
 try go_wp2
 have n_:=Zb (Za (Kd.b5z HO_5.out)) (Za (bTz HB.out));clear HO_5 HB;obtain ⟨HO_5,HB⟩:=n_;have p476:0<=(x6_1:Int):=Zc as_;have q476:x6_1<(l0.length:Int):=Zc as_;obtain ⟨ad476,e476,hx476_0⟩:=Kd.boz HR0.out x6_1 p476 q476;have hw476_0:=hx476_0;cases e476
 replace hx476_0:=(HB.out.cell (Zj w _ hx476_0)).trans hx476_0;replace p476:=Zz p476;replace q476:=Zz q476;have p477:0<=(x6_1:Int):=Zc as_;have q477:x6_1<(l1.length:Int):=Zc as_;obtain ⟨ad477,e477,hx477_0⟩:=Kd.boz HR1.out x6_1 p477 q477;have hw477_0:=hx477_0;cases e477
 replace hx477_0:=(HB.out.cell (Zj w _ hx477_0)).trans hx477_0;replace p477:=Zz p477;replace q477:=Zz q477;refine bPz (n:=13) (S:=fun w'=>w'.cell? (ad476.add (x6_1).toNat)=some (.int .i64 (rd l0 x6_1))/\w'.cell? (ad477.add (x6_1).toNat)=some (.int .i64 (rd l1 x6_1))) (ds:= []) (bA 13 0) kr_ rfl rfl ⟨((HB.out.cell (Zj w _ hw476_0)).trans hw476_0),((HB.out.cell (Zj w _ hw477_0)).trans hw477_0)⟩ (fun hHeld=> ?_);refine cdz ayz.tab5 ayz.bits5 (fun HT_ HW_=> ?_);generalize wr.drew=w7 at HO_5 HB hx476_0 hx477_0 hHeld|-;refine pv_ 0 13 1 HT_ ?_;refine pv_ 1 14 3 HT_ ?_;refine pv_ 2 15 7 HT_ ?_;refine pv_ 3 16 15 HT_ ?_;refine pv_ 5 18 47 HT_ ?_;refine pv_ 6 19 111 HT_ ?_;refine pv_ 7 20 239 HT_ ?_;refine tw_ 4 17 255 HT_ HW_ hHeld ?_;refine tw_ 8 21 511 HT_ HW_ hHeld ?_;refine pv_ 9 22 1023 HT_ ?_;refine one_ (i:=10) (N:=some 23) (bA 13 2047) rfl rfl (cbz HT_.out kr_) (by decide) (fun K hK=> ?_);refine cpz (w1:= ?_) (v:= ?_) (by rfl) rfl ?_ ?_
 rotate_left 2
 ·go_simp;constructor
  ·rfl
  ·rfl
 refine hK.out _ _ ⟨(World.cell?_alloc_lt _ _ _ (Zj _ _ (((HB.out.cell (Zj w _ hw476_0)).trans hw476_0)))).trans (((HB.out.cell (Zj w _ hw476_0)).trans hw476_0)),(World.cell?_alloc_lt _ _ _ (Zj _ _ (((HB.out.cell (Zj w _ hw477_0)).trans hw477_0)))).trans (((HB.out.cell (Zj w _ hw477_0)).trans hw477_0))⟩ (fun hHeld=> ?_);clear hK K;refine norm_ (a':= ?_) ?_ ?_;rotate_left
 ·show Act.put _ (some 23) _=_;simp only [Act.put,Zg,Zh,Zi,i64_w,i32_w];rfl
 refine one_ (i:=11) (N:=some 24) (bA 13 4095) rfl rfl (cbz HT_.out kr_) (by decide) (fun K hK=> ?_);refine Kd.duz (Kd.int .i64) (w0:=w) w.heap.size (by rfl) (.tmp 13) (.tmp 23) 57 3 (.int .i64 0) 8 rfl Tryz.underlying57 info3 rfl (by decide) (by omega) u5 x5_1 (Go.bits .xor .i64 (rd l0 x6_1) (rd l1 x6_1)) [.int .i64 (Go.bits .xor .i64 (rd l0 x6_1) (rd l1 x6_1))] (fun _=>True) (fun _=>False) rfl rfl ?aP (fun _ hk=>hk.elim) ?aF ?aO ?aB ?aS ?aL ?_
 (case aP=>exact rfl)
 (case aB=>exact bl_)
 (case aF=>exact (fun _ _=>trivial))
 (case aO=>exact (xd_ HO_5.out))
 (case aS=>exact (adz bl_))
 (case aL=>have:=LMc6.out;omega)
 intro v479 w8 ho hb hg hat;rw [<-Ny478.out] at ho;have n_:=Zb (Za (hb)) (Za (ho));clear HB HO_5;obtain ⟨HB,HO480⟩:=n_;clear ho hb hg hat;refine hK.out _ _ ⟨((HB.out.cell (Zj w _ hw476_0)).trans hw476_0),((HB.out.cell (Zj w _ hw477_0)).trans hw477_0)⟩ (fun hHeld=> ?_);clear hK K;refine norm_ (a':= ?_) ?_ ?_;rotate_left
 ·show Act.put _ (some 24) _=_;simp only [Act.put,Zg,Zh,Zi,i64_w,i32_w];rfl
 refine pv_ 12 5 8191 HT_ ?_;refine done_ (cCz HT_.out kr_) ?_
 try go_wp2
 go_roundg k1
 case measure=>have:=HK1.out;omega
 case rel=>exact ⟨(y478),(wrap64 (x6_1+1)),sd_,H',⟨by have:=HK1.out;omega⟩,⟨xd_ HO480.out⟩,⟨bl_⟩⟩
end Go.Proofs.Xc
end
