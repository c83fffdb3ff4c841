-- Joined texts of this work (wip/tools/bundle.py).
import Derived.Laws.Bits64
import Derived.Test.YtpdakdcmahlghaaGreatBReconWhich4
set_option maxHeartbeats 8000000
set_option maxRecDepth 100000
set_option linter.unusedVariables false
set_option linter.unusedSimpArgs false
section
namespace Go.Proofs.Xc
open Go.RowKit Go.Proofs.Pw Go.Proofs.Pl Go.Proofs.Pm Tryz
attribute [local go_sem] a7z a8z bgz bhz aVz aWz a9z baz
def ciz.f (a0:Int):Option (Int):=(bits_Len64.f a0).bind fun t618=>(some (wrap64 (t618 - 1)))
theorem ciz.calls (a0 r:Int) (w:World) (h:ciz.f a0=some r):
  Calls prog 124 #[.int .u64 a0] w fun e w'=>e= .returned (.int .i64 r)/\Drawn0 w w':=by
 have H:=h;clear h;unfold ciz.f at H;obtain ⟨b0,A2,H⟩:=ob_ H
 (try dsimp only at H)
 obtain rfl:=Zn H;go_enter func124,ntmps124
 go_wp2_with (first|((with_reducible refine aaz (f:=162) rfl ?_);refine gl_ (some 4) func162 #[.int .u64 a0] ?_;(with_reducible refine (bits_Len64.calls a0 b0 _ A2.o).mono ?_);rintro e w' ⟨rfl,⟨nd,rfl⟩⟩;refine ⟨_,rfl,?_⟩))
 go_ret;exact ⟨sd_,dn_⟩
def buz.l0:Nat->Int->Int->Int->Int->Option (Int)
 |0,_,_,_,_=>none
 |k+1,x0,x1,x5,x6=>if x6>=x5 then (if 0<=x6 then (if (Go.bits .and .u64 (shr .u64 x0 x6) 1)=1 then (if 0<=(wrap64 (x6 - x5)) then (buz.l0 k (Go.bits .xor .u64 x0 (shl .u64 (IntKind.u64.wrap (x1)) (wrap64 (x6 - x5)))) x1 x5 (wrap64 (x6 - 1))) else (none)) else (buz.l0 k x0 x1 x5 (wrap64 (x6 - 1)))) else (none)) else (some ((x0) % 4294967296))
def buz.f (k:Nat) (a0:Int) (a1:Int):Option (Int):=if a1=0 then (some 0) else ((ciz.f (IntKind.u64.wrap (a1))).bind fun t619=>((ciz.f a0).bind fun t620=>(buz.l0 k a0 a1 t619 t620)))
theorem buz.calls (k:Nat) (a0 a1 r:Int) (w:World) (h:buz.f k a0 a1=some r):
  Calls prog 164 #[.int .u64 a0, .int .u32 a1] w fun e w'=>e= .returned (.int .u32 r)/\Drawn0 w w':=by
 have H:=h;clear h;unfold buz.f at H;by_cases c3:a1=0
 ·rw [Ya c3] at H;have n0:(a1==0)=true:=Ye c3;have o0:(a1 !=0)=false:=Yc c3;clear c3;obtain rfl:=Zn H;go_enter func164,ntmps164;go_wp2;go_ret;exact ⟨sd_,dn_⟩
 ·rw [Yb c3] at H;have n0:(a1==0)=false:=Zq c3;have o0:(a1 !=0)=true:=Yd c3;obtain ⟨c0,A4,H⟩:=ob_ H
  (try dsimp only at H)
  obtain ⟨k0,A5,H⟩:=ob_ H
  (try dsimp only at H)
  have H':=Za H;clear H;go_enter func164,ntmps164
  go_wp2_with (first|((with_reducible refine aaz (f:=124) rfl ?_);refine gl_ (some 11) func124 #[.int .u64 (IntKind.u64.wrap (a1))] ?_;(with_reducible refine (ciz.calls (IntKind.u64.wrap (a1)) c0 _ A4.o).mono ?_);rintro e w' ⟨rfl,⟨nd,rfl⟩⟩;refine ⟨_,rfl,?_⟩)|((with_reducible refine aaz (f:=124) rfl ?_);refine gl_ (some 13) func124 #[.int .u64 a0] ?_;(with_reducible refine (ciz.calls a0 k0 _ A5.o).mono ?_);rintro e w' ⟨rfl,⟨nd,rfl⟩⟩;refine ⟨_,rfl,?_⟩))
  go_loopg [0,6] k (fun kq v0 v6 w'=> ∃(d0:Int) (b0:Int),v0= .int .u64 d0/\v6= .int .i64 b0/\Aside0 (buz.l0 kq d0 a1 c0 b0=some r)/\Aside0 (kq<=k)/\Drawn0 w w')
  case atStart=>exact ⟨(a0),(k0),sd_,sd_,H',⟨Zv _⟩,dn_⟩
  clear H';clear c3 n0 o0;obtain ⟨d0,b0,rfl,rfl,HA,p0,⟨m1,rfl⟩⟩:=hrel;rcases gk with _|k1
  ·exact Yf HA.o (by simp [buz.l0])
  have H:=HA.o;clear HA;simp only [buz.l0] at H;by_cases c6:b0>=c0
  rotate_left
  ·rw [Yb c6] at H;have y0:decide (c0<=b0)=false:=Ze c6;clear c6;obtain rfl:=Zn H;go_wp2;go_ret;exact ⟨sd_,dn_⟩
  rw [Ya c6] at H;have y0:decide (c0<=b0)=true:=Zd c6;clear c6;obtain ⟨c7,H⟩:=ig_ H;have F0:=Zz c7;have E0:=Zd c7;clear c7;obtain ⟨j0,h0⟩: ∃j_:Int,(shr .u64 d0 b0)=j_:=⟨_,rfl⟩
  replace H:(if (Go.bits .and .u64 (j0) 1)=1 then (if 0<=(wrap64 (b0 - c0)) then (buz.l0 k1 (Go.bits .xor .u64 d0 (shl .u64 (IntKind.u64.wrap (a1)) (wrap64 (b0 - c0)))) a1 c0 (wrap64 (b0 - 1))) else (none)) else (buz.l0 k1 d0 a1 c0 (wrap64 (b0 - 1))))=some r:=by first|(rw [h0] at H;exact H)|(simp only [h0] at H|-;exact H)
  have D0:(d0 / 2^min b0.toNat 64)=j0:=h0;have C0:b0<=64->(d0 / 2^b0.toNat)=j0:=shr_small h0;by_cases c9:(Go.bits .and .u64 (j0) 1)=1
  rotate_left
  ·rw [Yb c9] at H;have w0:((Go.bits .and .u64 (j0) 1)==1)=false:=Zq c9;have z0:((Go.bits .and .u64 (j0) 1) !=1)=true:=Yd c9;have H':=Za H;clear H;go_wp2
   (first|go_roundg k1|(subst e0;go_roundg k1))
   case measure=>have:=p0.o;omega
   case rel=>exact ⟨(d0),(wrap64 (b0 - 1)),sd_,sd_,H',⟨by have:=p0.o;omega⟩,dn_⟩
  rw [Ya c9] at H;have w0:((Go.bits .and .u64 (j0) 1)==1)=true:=Ye c9;have z0:((Go.bits .and .u64 (j0) 1) !=1)=false:=Yc c9;clear c9;obtain ⟨f0,g0⟩: ∃j_:Int,(wrap64 (b0 - c0))=j_:=⟨_,rfl⟩
  replace H:(if 0<=(f0) then (buz.l0 k1 (Go.bits .xor .u64 d0 (shl .u64 (IntKind.u64.wrap (a1)) (f0))) a1 c0 (wrap64 (b0 - 1))) else (none))=some r:=by first|(rw [g0] at H;exact H)|(simp only [g0] at H|-;exact H)
  have t0:(IntKind.i64.wrap (b0 - c0))=f0:=(i64_w _).trans g0;obtain ⟨q0,H⟩:=ig_ H;have B0:=Zz q0;have A0:=Zd q0;clear q0;obtain ⟨i0,e0⟩: ∃j_:Int,(shl .u64 (IntKind.u64.wrap (a1)) (f0))=j_:=⟨_,rfl⟩
  replace H:(buz.l0 k1 (Go.bits .xor .u64 d0 (i0)) a1 c0 (wrap64 (b0 - 1)))=some r:=by first|(rw [e0] at H;exact H)|(simp only [e0] at H|-;exact H)
  have r0:(IntKind.u64.wrap ((IntKind.u64.wrap (a1))*2^min (f0).toNat 64))=i0:=e0;have u0:(f0)<=64->(IntKind.u64.wrap ((IntKind.u64.wrap (a1))*2^(f0).toNat))=i0:=shl_small e0;have H':=Za H;clear H;go_wp2
  (first|go_roundg k1|(subst e0;go_roundg k1))
  case measure=>have:=p0.o;omega
  case rel=>exact ⟨(Go.bits .xor .u64 d0 (i0)),(wrap64 (b0 - 1)),(by first|rfl|(simp;done)|(simp only [<-e0] <;>(first|rfl|simp))|(simp [*];done)),sd_,H',⟨by have:=p0.o;omega⟩,dn_⟩
def bits_Len32.f (a0:Int):Option (Int):=if 0<=a0 then (if a0<=4294967295 then (some (Lib.bitLen a0.toNat:Int)) else (none)) else (none)
theorem bits_Len32.calls (a0 r:Int) (w:World) (h:bits_Len32.f a0=some r):
  Calls prog 191 #[.int .u32 a0] w fun e w'=>e= .returned (.int .i64 r)/\Drawn0 w w':=by
 unfold bits_Len32.f at h;by_cases h0:0<=a0
 case neg=>rw [Yb h0] at h;cases h
 rw [Ya h0] at h;by_cases h1:a0<=4294967295
 case neg=>rw [Yb h1] at h;cases h
 rw [Ya h1] at h;cases h
 refine (bits_Len32_told a0 w h0 h1).mono ?_;rintro e w' ⟨rfl,rfl⟩;exact ⟨rfl,Drawn0.refl _⟩
def b8z.at_ (a b:Int):Nat->Int
 |0=>0
 |i+1=>if Go.bits .and .u32 (shr .u32 b (i:Int)) 1=1 then Go.bits .xor .u64 (b8z.at_ a b i) (shl .u64 (IntKind.u64.wrap a) (i:Int)) else b8z.at_ a b i
def b8z.f (a0:Int) (a1:Int):Option (Int):=(bits_Len32.f a1).bind fun n=>if 0<=n then (if n<=32 then (some (b8z.at_ a0 a1 n.toNat)) else (none)) else (none)
theorem poly_Mul1.calls (b i:Int) (g:Nat) (W:World) (h1:W.heap[g]?=some (.cells #[.int .u32 b] 77 (0,0))) (hi:0<=i):
  Calls prog 190 #[.int .i64 i, .pointer (some ⟨g,0,none⟩)] W fun e w'=>e= .returned (.bool (Go.bits .and .u32 (shr .u32 b i) 1==1))/\Drawn0 W w':=by
 have b0:=(abz h1 0).trans rfl;obtain ⟨z,hz⟩: ∃z:Int,shr .u32 b i=z:=⟨_,rfl⟩;have c0:(b / 2^min i.toNat 32)=z:=hz;have hzz:i<=32->(b / 2^i.toNat)=z:=shr_small hz;have d0:=Zz hi;have a0:decide (0<=i)=true:=Zd hi;rw [hz];go_enter func190,ntmps190;go_wp2;go_ret;exact ⟨rfl,Drawn0.refl _⟩
theorem b8z.calls (a0 a1 r:Int) (w:World) (h:b8z.f a0 a1=some r):
  Calls prog 177 #[.int .u32 a0, .int .u32 a1] w fun e w'=>e= .returned (.int .u64 r)/\Below w.heap.size w w':=by
 unfold b8z.f at h
 cases hn:bits_Len32.f a1 with
 |none=>rw [hn] at h;cases h
 |some n=>
  rw [hn] at h;simp only [Zl] at h;by_cases h0:0<=n
  case neg=>rw [Yb h0] at h;cases h
  rw [Ya h0] at h;by_cases b0:n<=32
  case neg=>rw [Yb b0] at h;cases h
  rw [Ya b0] at h;cases h
  have HN:=Za hn;clear hn;go_enter func177,ntmps177
  go_wp2_with (first|(go_at_call 191;refine (bits_Len32.calls a1 n _ HN.o).mono ?_;rintro e w9 ⟨rfl,m9,rfl⟩))
  go_loopw [5,11] (fun p i wr=> ∃k:Nat,(k:Int)<=n/\p= .int .u64 (b8z.at_ a0 a1 k)/\i= .int .i64 k/\Aside0 (Below w.heap.size w wr)/\Aside0 (wr.heap[w.heap.size]?=some (.cells #[.int .u32 a1] 77 (0,0))))
   (fun _ i _=>40 - (intOf i).toNat)
  case atStart=>exact ⟨0,h0,rfl,rfl,⟨by repeat (first|exact Zw _ _|apply a2z|apply aoz)⟩,⟨by simpa using heap_alloc_new w _⟩⟩
  obtain ⟨k,hk,rfl,rfl,HB,BK⟩:=hrel;by_cases hlt:(k:Int)<n
  ·obtain ⟨z,hz⟩: ∃z:Int,shl .u64 (IntKind.u64.wrap a0) (k:Int)=z:=⟨_,rfl⟩;have c0:(IntKind.u64.wrap (IntKind.u64.wrap a0*2^min (k:Int).toNat 64))=z:=hz;have hzz:(k:Int)<=64->(IntKind.u64.wrap (IntKind.u64.wrap a0*2^(k:Int).toNat))=z:=shl_small hz
   have hs:b8z.at_ a0 a1 (k+1)=if (Go.bits .and .u32 (shr .u32 a1 (k:Int)) 1==1)=true then Go.bits .xor .u64 (b8z.at_ a0 a1 k) z else b8z.at_ a0 a1 k:=by
    simp only [b8z.at_,beq_iff_eq,hz]
   generalize hq:(Go.bits .and .u32 (shr .u32 a1 (k:Int)) 1==1)=q at hs;have HQ:=Za hq;have HS:=Za hs;clear hq hs
   cases q with
   |true=>
    go_wp2_with (first|(go_at_call 190;refine (poly_Mul1.calls a1 (k:Int) w.heap.size _ BK.o (by omega)).mono ?_;rintro e w9 ⟨rfl,m9,rfl⟩;rw [HQ.o]))
    go_roundw
    case rel=>exact ⟨k+1,by omega,by rw [HS.o,Ya (by trivial), <-hzz (by omega)];simp,by go_num,⟨by repeat (first|exact HB.o|apply a2z)⟩,⟨BK.o⟩⟩
    case measure=>simp [intOf];omega
   |false=>
    go_wp2_with (first|(go_at_call 190;refine (poly_Mul1.calls a1 (k:Int) w.heap.size _ BK.o (by omega)).mono ?_;rintro e w9 ⟨rfl,m9,rfl⟩;rw [HQ.o]))
    go_roundw
    case rel=>exact ⟨k+1,by omega,by rw [HS.o];rfl,by go_num,⟨by repeat (first|exact HB.o|apply a2z)⟩,⟨BK.o⟩⟩
    case measure=>simp [intOf];omega
  ·have:n=(k:Int):=by omega
   subst this;go_wp2;go_ret;exact ⟨by simp,HB.o⟩
def bQz.f (k:Nat) (a0 a1:Int) (a2:Int):Option (Int):=(b8z.f a0 a1).bind fun t621=>((buz.f k t621 a2).bind fun t622=>(some t622))
theorem bQz.calls (k:Nat) (a0 a1 a2 r:Int) (w:World) (h:bQz.f k a0 a1 a2=some r):
  Calls prog 152 #[.int .u32 a0, .int .u32 a1, .int .u32 a2] w fun e w'=>e= .returned (.int .u32 r)/\Below w.heap.size w w':=by
 have HB:=Za (Zw w.heap.size w);have H:=h;clear h;unfold bQz.f at H;obtain ⟨b0,A4,H⟩:=ob_ H
 (try dsimp only at H)
 obtain ⟨c0,A5,H⟩:=ob_ H
 (try dsimp only at H)
 obtain rfl:=Zn H;go_enter func152,ntmps152
 go_wp2_with (first|((with_reducible refine aaz (f:=177) rfl ?_);refine gl_ (some 9) func177 #[.int .u32 a0, .int .u32 a1] ?_;(with_reducible refine (b8z.calls a0 a1 b0 _ A4.o).mono ?_);rintro e w6 ⟨rfl,hb⟩;refine ⟨_,rfl,?_⟩;have d0:=hs_ HB hb;clear HB;have HB:=d0;clear d0;(try clear hb))|((with_reducible refine aaz (f:=164) rfl ?_);refine gl_ (some 11) func164 #[.int .u64 b0, .int .u32 a2] ?_;(with_reducible refine (buz.calls k b0 a2 c0 _ A5.o).mono ?_);rintro e w' ⟨rfl,⟨nd,rfl⟩⟩;refine ⟨_,rfl,?_⟩))
 go_ret;exact ⟨er_,bl_⟩
def bJz.l0:Nat->Int->Int->Int->Int->Option (Int)
 |0,_,_,_,_=>none
 |k+1,x1,x5,x8,x9=>if x9<x8 then ((bQz.f k x5 x5 x1).bind fun t624=>(bJz.l0 k x1 t624 x8 (wrap64 (x9+1)))) else (some x5)
def bJz.f (k:Nat) (a0:Int) (a1:Int):Option (Int):=(buz.f k 2 a1).bind fun t623=>(bJz.l0 k a1 t623 a0 0)
theorem bJz.calls (k:Nat) (a0 a1 r:Int) (w:World) (h:bJz.f k a0 a1=some r):
  Calls prog 186 #[.int .i64 a0, .int .u32 a1] w fun e w'=>e= .returned (.int .u32 r)/\Below w.heap.size w w':=by
 have HB:=Za (Zw w.heap.size w);have H:=h;clear h;unfold bJz.f at H;obtain ⟨e0,A3,H⟩:=ob_ H
 (try dsimp only at H)
 have H':=Za H;clear H;go_enter func186,ntmps186
 go_wp2_with (first|((with_reducible refine aaz (f:=164) rfl ?_);refine gl_ (some 7) func164 #[.int .u64 2, .int .u32 a1] ?_;(with_reducible refine (buz.calls k 2 a1 e0 _ A3.o).mono ?_);rintro e w' ⟨rfl,⟨nd,rfl⟩⟩;refine ⟨_,rfl,?_⟩))
 go_loopg [5,9] k (fun kq v5 v9 w'=> ∃(b0:Int) (c0:Int),v5= .int .u32 b0/\v9= .int .i64 c0/\Aside0 (bJz.l0 kq a1 b0 a0 c0=some r)/\Aside0 (kq<=k)/\Aside0 (Below w.heap.size w w'))
 case atStart=>exact ⟨(e0),(0),sd_,sd_,H',⟨Zv _⟩,⟨bl_⟩⟩
 clear H';obtain ⟨b0,c0,rfl,rfl,HA,h0,HB⟩:=hrel;rcases gk with _|k1
 ·exact Yf HA.o (by simp [bJz.l0])
 have H:=HA.o;clear HA;simp only [bJz.l0] at H;by_cases c4:c0<a0
 ·rw [Ya c4] at H;have f0:=Zd c4;clear c4;obtain ⟨d0,A5,H⟩:=ob_ H
  (try dsimp only at H)
  have H':=Za H;clear H
  go_wp2_with (first|((with_reducible refine aaz (f:=152) rfl ?_);refine gl_ (some 14) func152 #[.int .u32 b0, .int .u32 b0, .int .u32 a1] ?_;(with_reducible refine (bQz.calls k1 b0 b0 a1 d0 _ A5.o).mono ?_);rintro e w6 ⟨rfl,hb⟩;refine ⟨_,rfl,?_⟩;have g0:=hs_ HB hb;clear HB;have HB:=g0;clear g0;(try clear hb)))
  go_roundg k1
  case measure=>have:=h0.o;omega
  case rel=>exact ⟨(d0),(wrap64 (c0+1)),sd_,sd_,H',⟨by have:=h0.o;omega⟩,⟨bl_⟩⟩
 ·rw [Yb c4] at H;have f0:=Ze c4;clear c4;obtain rfl:=Zn H;go_wp2;go_ret;exact ⟨er_,bl_⟩
def cOz.l0:Nat->Int->Int->Option (Int)
 |0,_,_=>none
 |k+1,x0,x1=>if x1=0 then (some x0) else ((buz.f k (IntKind.u64.wrap (x0)) x1).bind fun t625=>(cOz.l0 k x1 t625))
def cOz.f (k:Nat) (a0:Int) (a1:Int):Option (Int):=cOz.l0 k a0 a1
theorem cOz.calls (k:Nat) (a0 a1 r:Int) (w:World) (h:cOz.f k a0 a1=some r):
  Calls prog 187 #[.int .u32 a0, .int .u32 a1] w fun e w'=>e= .returned (.int .u32 r)/\Drawn0 w w':=by
 have H:=h;clear h;unfold cOz.f at H;have H':=Za H;clear H;go_enter func187,ntmps187;go_wp2
 go_loopg [0,1] k (fun kq v0 v1 w'=> ∃(c0:Int) (b0:Int),v0= .int .u32 c0/\v1= .int .u32 b0/\Aside0 (cOz.l0 kq c0 b0=some r)/\Aside0 (kq<=k)/\Drawn0 w w')
 case atStart=>exact ⟨(a0),(a1),sd_,sd_,H',⟨Zv _⟩,dn_⟩
 clear H';obtain ⟨c0,b0,rfl,rfl,HA,g0,⟨m1,rfl⟩⟩:=hrel;rcases gk with _|k1
 ·exact Yf HA.o (by simp [cOz.l0])
 have H:=HA.o;clear HA;simp only [cOz.l0] at H;by_cases c3:b0=0
 ·rw [Ya c3] at H;have f0:(b0==0)=true:=Ye c3;have e0:(b0 !=0)=false:=Yc c3;clear c3;obtain rfl:=Zn H;go_wp2;go_ret;exact ⟨sd_,dn_⟩
 ·rw [Yb c3] at H;have f0:(b0==0)=false:=Zq c3;have e0:(b0 !=0)=true:=Yd c3;obtain ⟨d0,A4,H⟩:=ob_ H
  (try dsimp only at H)
  have H':=Za H;clear H
  go_wp2_with (first|((with_reducible refine aaz (f:=164) rfl ?_);refine gl_ (some 11) func164 #[.int .u64 (IntKind.u64.wrap (c0)), .int .u32 b0] ?_;(with_reducible refine (buz.calls k1 (IntKind.u64.wrap (c0)) b0 d0 _ A4.o).mono ?_);rintro e w' ⟨rfl,⟨nd,rfl⟩⟩;refine ⟨_,rfl,?_⟩))
  go_roundg k1
  case measure=>have:=g0.o;omega
  case rel=>exact ⟨(b0),(d0),sd_,sd_,H',⟨by have:=g0.o;omega⟩,dn_⟩
mutual
def blz.j0:Nat->Int->Int->Bool->Option (Bool)
 |0,_,_,_=>none
 |k+1,x0,x3,x21=>if x21=true then (some false) else (blz.l0 k x0 x3 1)
def blz.l0:Nat->Int->Int->Int->Option (Bool)
 |0,_,_,_=>none
 |k+1,x0,x3,x4=>if x4<=(wrap64 (Int.tdiv x3 2)) then ((bJz.f k x4 x0).bind fun t629=>((cOz.f k x0 (Go.bits .xor .u32 t629 2)).bind fun t630=>(if t630=1 then (blz.l0 k x0 x3 (wrap64 (x4+1))) else (some false)))) else (some true)
end
def blz.f (k:Nat) (a0:Int):Option (Bool):=(ciz.f (IntKind.u64.wrap (a0))).bind fun t626=>(if t626<1 then (blz.j0 k a0 t626 true) else (if t626>16 then (blz.j0 k a0 t626 true) else ((bJz.f k t626 a0).bind fun t627=>((buz.f k 2 a0).bind fun t628=>(blz.j0 k a0 t626 (t627 !=t628))))))
theorem blz.calls (k:Nat) (a0:Int) (r:Bool) (w:World) (h:blz.f k a0=some r):
  Calls prog 163 #[.int .u32 a0] w fun e w'=>e= .returned (.bool r)/\Below w.heap.size w w':=by
 have HB:=Za (Zw w.heap.size w);have H:=h;clear h;unfold blz.f at H;obtain ⟨c0,A2,H⟩:=ob_ H
 (try dsimp only at H)
 have r0:=Za H;clear H;go_enter func163,ntmps163
 go_upto_region 2 with (first|((with_reducible refine aaz (f:=124) rfl ?_);refine gl_ (some 7) func124 #[.int .u64 (IntKind.u64.wrap (a0))] ?_;(with_reducible refine (ciz.calls (IntKind.u64.wrap (a0)) c0 _ A2.o).mono ?_);rintro e w' ⟨rfl,⟨nd,rfl⟩⟩;refine ⟨_,rfl,?_⟩))
 (try simp only [Act.put,Zg,Zh,Zi])
 go_cut [21] (fun B0 wc=> ∃(kq:Nat) (e0:Bool),B0= .bool e0/\Aside0 (blz.j0 kq a0 c0 e0=some r)/\Aside0 (kq<=k)/\Aside0 (Below w.heap.size w wc))
 case first=>
  have H:=r0.o;clear r0;by_cases c4:c0<1
  ·rw [Ya c4] at H;have t0:=Zd c4;clear c4;have H':=Za H;clear H;go_wp2
   go_meet
   case rel=>exact ⟨_,(true),sd_,H',⟨by first|omega|exact Zv _⟩,⟨bl_⟩⟩
  ·rw [Yb c4] at H;have t0:=Ze c4;clear c4;by_cases c5:c0>16
   ·rw [Ya c5] at H;have u0:decide (16<c0)=true:=Zd c5;clear c5;have H':=Za H;clear H;go_wp2
    go_meet
    case rel=>exact ⟨_,(true),sd_,H',⟨by first|omega|exact Zv _⟩,⟨bl_⟩⟩
   ·rw [Yb c5] at H;have u0:decide (16<c0)=false:=Ze c5;clear c5;obtain ⟨p0,A6,H⟩:=ob_ H
    (try dsimp only at H)
    obtain ⟨o0,A7,H⟩:=ob_ H
    (try dsimp only at H)
    have H':=Za H;clear H
    go_wp2_with (first|(go_at_call 186;(with_reducible refine (bJz.calls k c0 a0 p0 _ A6.o).mono ?_);rintro e w8 ⟨rfl,hb⟩;have g0:=hs_ HB hb;clear HB;have HB:=g0;clear g0;(try clear hb))|(go_at_call 164;(with_reducible refine (buz.calls k 2 a0 o0 _ A7.o).mono ?_);rintro e w' ⟨rfl,⟨nd,rfl⟩⟩))
    go_meet
    case rel=>exact ⟨_,((p0 !=o0)),sd_,H',⟨by first|omega|exact Zv _⟩,⟨bl_⟩⟩
 case rest=>
  clear r0;obtain ⟨kq,e0,rfl,HA,w0,HB⟩:=hcut;rcases kq with _|z0
  ·exact Yf HA.o (by simp [blz.j0])
  have H:=HA.o;clear HA;simp only [blz.j0] at H;by_cases c9:e0=true
  ·subst c9;rw [Ya rfl] at H;obtain rfl:=Zn H;go_wp2;go_ret;exact ⟨er_,bl_⟩
  ·replace c9:=Zr c9;subst c9;rw [Yb (show¬(false=true) by decide)] at H;have H':=Za H;clear H;go_wp2
   go_loopg [4] z0 (fun kq v4 w'=> ∃(b0:Int),v4= .int .i64 b0/\Aside0 (blz.l0 kq a0 c0 b0=some r)/\Aside0 (kq<=z0)/\Aside0 (Below w.heap.size w w'))
   case atStart=>exact ⟨(1),sd_,H',⟨Zv _⟩,⟨bl_⟩⟩
   clear H';obtain ⟨b0,rfl,HA,A0,HB⟩:=hrel;rcases gk with _|k2
   ·exact Yf HA.o (by simp [blz.l0])
   have H:=HA.o;clear HA;simp only [blz.l0] at H;by_cases i0:b0<=(wrap64 (Int.tdiv c0 2))
   rotate_left
   ·rw [Yb i0] at H;have q0:=Ze i0;clear i0;obtain rfl:=Zn H;go_wp2;go_ret;exact ⟨er_,bl_⟩
   rw [Ya i0] at H;have q0:=Zd i0;clear i0;obtain ⟨f0,v0,H⟩:=ob_ H
   (try dsimp only at H)
   obtain ⟨d0,y0,H⟩:=ob_ H
   (try dsimp only at H)
   by_cases h0:d0=1
   ·rw [Ya h0] at H;have n0:(d0==1)=true:=Ye h0;have k0:(d0 !=1)=false:=Yc h0;clear h0;have H':=Za H;clear H
    go_wp2_with (first|((with_reducible refine aaz (f:=186) rfl ?_);refine gl_ (some 31) func186 #[.int .i64 b0, .int .u32 a0] ?_;(with_reducible refine (bJz.calls k2 b0 a0 f0 _ v0.o).mono ?_);rintro e D0 ⟨rfl,hb⟩;refine ⟨_,rfl,?_⟩;have g0:=hs_ HB hb;clear HB;have HB:=g0;clear g0;(try clear hb))|((with_reducible refine aaz (f:=187) rfl ?_);refine gl_ (some 33) func187 #[.int .u32 a0, .int .u32 (Go.bits .xor .u32 f0 2)] ?_;(with_reducible refine (cOz.calls k2 a0 (Go.bits .xor .u32 f0 2) d0 _ y0.o).mono ?_);rintro e w' ⟨rfl,⟨nd,rfl⟩⟩;refine ⟨_,rfl,?_⟩))
    go_roundg k2
    case measure=>have:=w0.o;have:=A0.o;omega
    case rel=>exact ⟨(wrap64 (b0+1)),sd_,H',⟨by have:=w0.o;have:=A0.o;omega⟩,⟨bl_⟩⟩
   ·rw [Yb h0] at H;have n0:(d0==1)=false:=Zq h0;have k0:(d0 !=1)=true:=Yd h0;obtain rfl:=Zn H
    go_wp2_with (first|((with_reducible refine aaz (f:=186) rfl ?_);refine gl_ (some 31) func186 #[.int .i64 b0, .int .u32 a0] ?_;(with_reducible refine (bJz.calls k2 b0 a0 f0 _ v0.o).mono ?_);rintro e C0 ⟨rfl,hb⟩;refine ⟨_,rfl,?_⟩;have g0:=hs_ HB hb;clear HB;have HB:=g0;clear g0;(try clear hb))|((with_reducible refine aaz (f:=187) rfl ?_);refine gl_ (some 33) func187 #[.int .u32 a0, .int .u32 (Go.bits .xor .u32 f0 2)] ?_;(with_reducible refine (cOz.calls k2 a0 (Go.bits .xor .u32 f0 2) d0 _ y0.o).mono ?_);rintro e w' ⟨rfl,⟨nd,rfl⟩⟩;refine ⟨_,rfl,?_⟩))
    go_ret;exact ⟨er_,bl_⟩
def clr1 (q d i a:Nat):Nat:=if a.testBit i then a^^^(q*2^(i - d)) else a
def redN (q d:Nat):Nat->Nat->Nat
 |0,a=>a
 |n+1,a=>redN q d n (clr1 q d (d+n) a)
def cmN (a b:Nat):Nat->Nat
 |0=>0
 |i+1=>if b.testBit i then cmN a b i^^^(a*2^i) else cmN a b i
theorem xor_mid (a b s:Nat):a^^^b=(a^^^s)^^^(b^^^s):=by
 rw [Nat.xor_assoc,Nat.xor_comm b s, <-Nat.xor_assoc s,Nat.xor_self,Nat.zero_xor]
theorem xor_right (a b s:Nat):(a^^^b)^^^s=(a^^^s)^^^b:=by rw [Nat.xor_assoc,Nat.xor_assoc,Nat.xor_comm b]
theorem clr1_xor (q d i a b:Nat):clr1 q d i (a^^^b)=clr1 q d i a^^^clr1 q d i b:=by
 unfold clr1;rw [Nat.testBit_xor];cases a.testBit i<;>cases b.testBit i<;>simp only [Bool.false_eq_true,if_false,if_true,Bool.xor_false,Bool.xor_true,Bool.false_xor,Bool.not_true,Bool.not_false,Bool.xor_self]
 ·exact Nat.xor_assoc _ _ _
 ·exact xor_right _ _ _
 ·exact xor_mid _ _ _
theorem redN_xor (q d:Nat): ∀(n a b:Nat),redN q d n (a^^^b)=redN q d n a^^^redN q d n b
 |0,_,_=>rfl
 |n+1,a,b=>by unfold redN;rw [clr1_xor,redN_xor q d n]
theorem mul_pow_xor (a b i:Nat):(a^^^b)*2^i=(a*2^i)^^^(b*2^i):=by
 rw [<-Nat.shiftLeft_eq, <-Nat.shiftLeft_eq, <-Nat.shiftLeft_eq];apply Nat.eq_of_testBit_eq
 intro j;simp only [Nat.testBit_shiftLeft,Nat.testBit_xor];cases decide (j>=i)<;>simp
theorem cmN_left (a c b:Nat): ∀n,cmN (a^^^c) b n=cmN a b n^^^cmN c b n
 |0=>by simp [cmN]
 |n+1=>by
  unfold cmN;split
  ·rw [cmN_left a c b n,mul_pow_xor,Nat.xor_assoc,Nat.xor_assoc];congr 1
   rw [<-Nat.xor_assoc, <-Nat.xor_assoc,Nat.xor_comm (cmN c b n)]
  ·exact cmN_left a c b n
theorem cmN_right (a b c:Nat): ∀n,cmN a (b^^^c) n=cmN a b n^^^cmN a c n
 |0=>by simp [cmN]
 |n+1=>by
  unfold cmN;rw [Nat.testBit_xor,cmN_right a b c n];cases b.testBit n<;>cases c.testBit n<;>simp only [Bool.false_eq_true,if_false,if_true,Bool.xor_false,Bool.xor_true,Bool.false_xor,Bool.not_true,Bool.not_false,Bool.xor_self]
  ·exact Nat.xor_assoc _ _ _
  ·exact xor_right _ _ _
  ·exact xor_mid _ _ _
theorem cmN_more (a b n:Nat) (hb:b<2^n): ∀k,cmN a b (n+k)=cmN a b n
 |0=>rfl
 |k+1=>by
  have e:cmN a b (n+k+1)=if b.testBit (n+k) then cmN a b (n+k)^^^(a*2^(n+k)) else cmN a b (n+k):=rfl
  show cmN a b (n+k+1)=_;rw [e,Nat.testBit_lt_two_pow (Zp hb (Nat.pow_le_pow_right (by omega) (by omega))),Yb (by decide)];exact cmN_more a b n hb k
theorem cYz {a m i:Nat} (ha:a<2^m):a*2^i<2^(m+i):=by
 rw [Nat.pow_add];exact Nat.mul_lt_mul_of_pos_right ha (Nat.pow_pos (by omega))
theorem cmN_lt (a b m:Nat) (ha:a<2^m): ∀n,cmN a b n<2^(m+n)
 |0=>by unfold cmN;exact Nat.pow_pos (by omega)
 |n+1=>by
  have h1:cmN a b n<2^(m+(n+1)):=Zp (cmN_lt a b m ha n) (Nat.pow_le_pow_right (by omega) (by omega));have h2:a*2^n<2^(m+(n+1)):=Zp (cYz ha) (Nat.pow_le_pow_right (by omega) (by omega));unfold cmN;split
  ·exact Nat.xor_lt_two_pow h1 h2
  ·exact h1
section
variable {q d : Nat} (hq : q < 2 ^ (d + 1)) (hqd : q.testBit d = true)
include hq hqd
theorem clr1_lt (i a:Nat) (hi:d<=i) (ha:a<2^(i+1)):clr1 q d i a<2^i:=by
 have hs:q*2^(i - d)<2^(i+1):=by
  have:=cYz (i:=i - d) hq;rwa [show d+1+(i - d)=i+1 by omega] at this
 have hb:(q*2^(i - d)).testBit i=true:=by
  rw [<-Nat.shiftLeft_eq,Nat.testBit_shiftLeft,show i - (i - d)=d by omega,hqd];simp
 unfold clr1;split
 ·rename_i h
  rw [bMz (Nat.xor_lt_two_pow ha hs),Nat.testBit_xor,h,hb];rfl
 ·rename_i h
  rw [bMz ha];simpa using h
omit hq hqd in
theorem clr1_small (i a:Nat) (ha:a<2^i):clr1 q d i a=a:=by
 unfold clr1;rw [Nat.testBit_lt_two_pow ha];rfl
omit hq hqd in
theorem eNz (n a:Nat) (ha:a<2^(d+n)): ∀k,redN q d (n+k) a=redN q d n a
 |0=>rfl
 |k+1=>by
  show redN q d (n+k) (clr1 q d (d+(n+k)) a)=_;rw [clr1_small _ _ (Zp ha (Nat.pow_le_pow_right (by omega) (by omega)))];exact eNz n a ha k
end
theorem cm_gm {m q:Nat} (F:Gf m q) (hb: ∀i,i<m+1-> ∀j,j<m+1->redN q (m+1) m (cmN (2^i) (2^j) (m+1))=gm m q (2^i) (2^j)) (a b:Nat) (ha:a<2^(m+1)) (hb':b<2^(m+1)):
  redN q (m+1) m (cmN a b (m+1))=gm m q a b:=by
 refine dRz (f:=fun a=>redN q (m+1) m (cmN a b (m+1))) (g:=fun a=>gm m q a b) (m+1) (fun x y _ _=>by show redN _ _ _ (cmN (x^^^y) b _)=_;rw [cmN_left,redN_xor]) (fun _ _ h1 h2=>F.dlz h1 h2) (fun i hi=> ?_) a ha;exact dRz (f:=fun b=>redN q (m+1) m (cmN (2^i) b (m+1))) (g:=fun b=>gm m q (2^i) b) (m+1) (fun x y _ _=>by show redN _ _ _ (cmN _ (x^^^y) _)=_;rw [cmN_right,redN_xor]) (fun _ _ _ _=>Gf.c7z _ _ _) (fun j hj=>hb i hi j hj) b hb'
theorem cm_gm8 (a b:Nat) (ha:a<256) (hb:b<256):redN 285 8 7 (cmN a b 8)=gm 7 285 a b:=cm_gm (m:=7) gf8.toGf (by decide+kernel) a b ha hb
theorem cm_gm16 (a b:Nat) (ha:a<65536) (hb:b<65536):redN 69643 16 15 (cmN a b 16)=gm 15 69643 a b:=cm_gm (m:=15) gf16.toGf (by decide+kernel) a b ha hb
theorem ofIntU64 (a:Nat) (ha:a<18446744073709551616):(BitVec.ofInt 64 (a:Int)).toNat=a:=by
 rw [BitVec.toNat_ofInt];omega
theorem u64_xor (a b:Nat) (ha:a<2^64) (hb:b<2^64):Go.bits .xor .u64 (a:Int) (b:Int)=((a^^^b:Nat):Int):=by
 have h:a^^^b<2^64:=Nat.xor_lt_two_pow ha hb;show IntKind.u64.wrap ((BitVec.ofInt 64 (a:Int)^^^BitVec.ofInt 64 (b:Int)).toNat:Int)=_;rw [BitVec.toNat_xor,ofIntU64 a (by omega),ofIntU64 b (by omega),IntKind.wrap_u64];omega
theorem ofIntU32 (a:Nat) (ha:a<4294967296):(BitVec.ofInt 32 (a:Int)).toNat=a:=by
 rw [BitVec.toNat_ofInt];omega
theorem u32_and1 (a:Nat) (ha:a<2^32):Go.bits .and .u32 (a:Int) 1=((a % 2:Nat):Int):=by
 show IntKind.u32.wrap ((BitVec.ofInt 32 (a:Int)&&&BitVec.ofInt 32 ((1:Nat):Int)).toNat:Int)=_;rw [BitVec.toNat_and,ofIntU32 a (by omega),ofIntU32 1 (by omega),Nat.and_one_is_mod,IntKind.wrap_u32];omega
theorem u64_and1 (a:Nat) (ha:a<2^64):Go.bits .and .u64 (a:Int) 1=((a % 2:Nat):Int):=by
 show IntKind.u64.wrap ((BitVec.ofInt 64 (a:Int)&&&BitVec.ofInt 64 ((1:Nat):Int)).toNat:Int)=_;rw [BitVec.toNat_and,ofIntU64 a (by omega),ofIntU64 1 (by omega),Nat.and_one_is_mod,IntKind.wrap_u64];omega
theorem shr_nat {k:IntKind} (a i:Nat) (hi:i<=k.bits):shr k (a:Int) (i:Int)=((a / 2^i:Nat):Int):=by
 unfold shr;rw [Zu,Nat.min_eq_left hi];simp
theorem diz (a i:Nat):(a.testBit i=true)↔(a / 2^i % 2=1):=by
 rw [Nat.testBit_eq_decide_div_mod_eq];simp
theorem shl64_nat (a i:Nat) (h:a*2^i<2^64) (hi:i<=64):shl .u64 (a:Int) (i:Int)=((a*2^i:Nat):Int):=by
 unfold shl;rw [Zu,show IntKind.u64.bits=64 from rfl,Nat.min_eq_left hi,IntKind.wrap_u64];have e:((a:Int)*2^i)=((a*2^i:Nat):Int):=by simp
 rw [e];omega
theorem cTz {x:Int} (h0: -1<=x) (h1:x<1000):wrap64 x=x:=by unfold wrap64;omega
theorem poly_at_cm (a b:Nat) (ha:a<2^31) (hb:b<2^31): ∀i:Nat,i<=32->b8z.at_ (a:Int) (b:Int) i=((cmN a b i:Nat):Int)
 |0,_=>rfl
 |i+1,hi=>by
  have h1:a*2^i<2^64:=Zp (cYz ha) (Nat.pow_le_pow_right (by omega) (by omega));have h2:cmN a b i<2^64:=Zp (cmN_lt a b 31 ha i) (Nat.pow_le_pow_right (by omega) (by omega));unfold b8z.at_ cmN;rw [poly_at_cm a b ha hb i (by omega),shr_nat (k:= .u32) b i (by show i<=32;omega),u32_and1 _ (by have:=Nat.div_le_self b (2^i);omega),IntKind.wrap_u64,show ((a:Int) % 18446744073709551616)=(a:Int) by omega,shl64_nat a i h1 (by omega),u64_xor _ _ h2 h1];by_cases h:b.testBit i=true
  ·rw [Ya h,Ya (by rw [(diz b i).1 h];rfl)]
  ·rw [Yb h,Yb (fun e=>h ((diz b i).2 (by omega)))]
theorem bitLen_spec: ∀(f x:Nat),x<2^f->Lib.bitLenAux f x<=f/\x<2^Lib.bitLenAux f x/\(x≠0->2^(Lib.bitLenAux f x)<=2*x)
 |0,x,h=>by
  have:x=0:=by simpa using h
  subst this;exact ⟨Zv _,by simp [Lib.bitLenAux],fun h=>Yf rfl h⟩
 |f+1,x,h=>by
  unfold Lib.bitLenAux;by_cases h0:x=0
  ·rw [Ya h0,h0];exact ⟨by omega,by simp,fun h=>Yf rfl h⟩
  ·rw [Yb h0];obtain ⟨i1,i2,i3⟩:=bitLen_spec f (x / 2) (by rw [Nat.pow_succ] at h;omega);refine ⟨by omega,?_,fun _=> ?_⟩
   ·rw [Nat.add_comm,Nat.pow_succ];omega
   ·rw [Nat.add_comm,Nat.pow_succ];by_cases h2:x / 2=0
    ·rw [h2];have:Lib.bitLenAux f 0=0:=by cases f<;>simp [Lib.bitLenAux]
     rw [this];omega
    ·have:=i3 h2;omega
theorem deg_f (x:Nat) (hx:x<2^64):ciz.f (x:Int)=some ((Lib.bitLen x:Int) - 1):=by
 have h:=bitLen_spec 64 x hx;unfold ciz.f bits_Len64.f;rw [Ya (by omega),Ya (by omega)];simp only [Zl,Zu];rw [cTz (by omega) (by have:=h.1;show (Lib.bitLen x:Int) - 1<1000;unfold Lib.bitLen;omega)]
theorem mod_loop (q d:Nat) (hq:q<2^(d+1)) (hqd:q.testBit d=true) (hd:d<=16): ∀(n k a:Nat),n<k->d+n<=40->a<2^(d+n)->buz.l0 k (a:Int) (q:Int) (d:Int) ((d:Int)+(n:Int) - 1)=some ((redN q d n a:Nat):Int)
 |0,k,a,hk,_,ha=>by
  obtain ⟨k,rfl⟩: ∃m,k=m+1:=⟨k - 1,by omega⟩;unfold buz.l0 redN;rw [Yb (by omega)];have:a<2^16:=Zp ha (Nat.pow_le_pow_right (by omega) (by omega));rw [show ((a:Int) % 4294967296)=(a:Int) by omega]
 |n+1,k,a,hk,hn,ha=>by
  obtain ⟨k,rfl⟩: ∃m,k=m+1:=⟨k - 1,by omega⟩;have e1:(d:Int)+((n+1:Nat):Int) - 1=((d+n:Nat):Int):=by omega
  have a0:a<2^40:=Zp ha (Nat.pow_le_pow_right (by omega) (by omega));have e2:wrap64 (((d+n:Nat):Int) - 1)=(d:Int)+(n:Int) - 1:=by rw [cTz (by omega) (by omega)];omega
  have e3:wrap64 (((d+n:Nat):Int) - (d:Int))=((n:Nat):Int):=by rw [cTz (by omega) (by omega)];omega
  have hs:q*2^n<2^40:=Zp (cYz hq) (Nat.pow_le_pow_right (by omega) (by omega));have b0:q<2^17:=Zp hq (Nat.pow_le_pow_right (by omega) (by omega));have hc:=clr1_lt hq hqd (d+n) a (by omega) ha;unfold buz.l0 redN;rw [e1,Ya (by omega),Ya (by omega),shr_nat (k:= .u64) a (d+n) (by show d+n<=64;omega),u64_and1 _ (by have:=Nat.div_le_self a (2^(d+n));omega),e2,e3,Ya (show (0:Int)<=((n:Nat):Int) by omega),IntKind.wrap_u64,show ((q:Int) % 18446744073709551616)=(q:Int) by omega,shl64_nat q n (by omega) (by omega),u64_xor _ _ (by omega) (by omega)];unfold clr1 at hc|-;rw [show d+n - d=n by omega] at hc|-;by_cases h:a.testBit (d+n)=true
  ·rw [Ya h] at hc|-;rw [Ya (by rw [(diz a (d+n)).1 h];rfl)];exact mod_loop q d hq hqd hd n k _ (by omega) (by omega) hc
  ·rw [Yb h] at hc|-;rw [Yb (fun e=>h ((diz a (d+n)).2 (by omega)))];exact mod_loop q d hq hqd hd n k _ (by omega) (by omega) hc
theorem mod_f (q d:Nat) (hq:q<2^(d+1)) (hqd:q.testBit d=true) (hd:d<=16) (n k a:Nat) (hk:40<=k) (hn:d+n<=32) (ha:a<2^(d+n)):buz.f k (a:Int) (q:Int)=some ((redN q d n a:Nat):Int):=by
 have b0:q<2^17:=Zp hq (Nat.pow_le_pow_right (by omega) (by omega));have a0:q≠0:=fun e=>by rw [e] at hqd;simp at hqd
 have c0:a<2^32:=Zp ha (Nat.pow_le_pow_right (by omega) (by omega));obtain ⟨b1,b2,b3⟩:=bitLen_spec 64 q (by omega);have b3:=b3 a0
 have hbl:Lib.bitLenAux 64 q=d+1:=by
  have hge:2^d<=q:=Nat.ge_two_pow_of_testBit hqd;have l1:d<Lib.bitLenAux 64 q:=(Nat.pow_lt_pow_iff_right (show 1<2 by omega)).1 (Nat.lt_of_le_of_lt hge b2);have l2:Lib.bitLenAux 64 q<d+2:=(Nat.pow_lt_pow_iff_right (show 1<2 by omega)).1 (by rw [Nat.pow_succ 2 (d+1)];omega);omega
 unfold buz.f;rw [Yb (by omega),IntKind.wrap_u64,show ((q:Int) % 18446744073709551616)=(q:Int) by omega,deg_f q (by omega),deg_f a (by omega)];simp only [Zl];rw [show Lib.bitLen q=d+1 from hbl,show (((d+1:Nat):Int) - 1)=(d:Int) by omega];obtain ⟨c1,c2,c3⟩:=bitLen_spec 64 a (by omega);obtain ⟨L,hL⟩: ∃L,Lib.bitLen a=L:=⟨_,rfl⟩;have hL':Lib.bitLenAux 64 a=L:=hL;rw [hL'] at c1 c2 c3;rw [hL];by_cases hld:d<=L
 ·have hLn : L <= d + n := by
   by_cases h0:a=0
   ·rw [h0] at hL';have:L=0:=by rw [<-hL'];decide
    omega
   ·have h3:=c3 h0;have:L<d+n+1:=(Nat.pow_lt_pow_iff_right (show 1<2 by omega)).1 (by rw [Nat.pow_succ];omega);omega
  obtain ⟨j,rfl⟩: ∃j,L=d+j:=⟨L - d,by omega⟩;rw [show (((d+j:Nat):Int) - 1)=(d:Int)+(j:Int) - 1 by omega,mod_loop q d hq hqd hd j k a (by omega) (by omega) c2];obtain ⟨i,rfl⟩: ∃i,n=j+i:=⟨n - j,by omega⟩;rw [eNz j a c2 i]
 ·have had:a<2^(d+0):=Zp c2 (Nat.pow_le_pow_right (by omega) (by omega))
  have hr:redN q d n a=a:=by
   have:=eNz (q:=q) 0 a had n;rw [Nat.zero_add] at this;exact this
  rw [hr];obtain ⟨k,rfl⟩: ∃m,k=m+1:=⟨k - 1,by omega⟩;unfold buz.l0;rw [Yb (by omega),show ((a:Int) % 4294967296)=(a:Int) by omega]
theorem mul_f (a b n:Nat) (ha:a<2^31) (hb:b<2^n) (hn:n<=31):b8z.f (a:Int) (b:Int)=some ((cmN a b n:Nat):Int):=by
 have a0:b<2^31:=Zp hb (Nat.pow_le_pow_right (by omega) hn);obtain ⟨c1,c2,c3⟩:=bitLen_spec 64 b (by omega);obtain ⟨L,hL⟩: ∃L,Lib.bitLen b=L:=⟨_,rfl⟩;have hL':Lib.bitLenAux 64 b=L:=hL;rw [hL'] at c1 c2 c3
 have hLn:L<=n:=by
  by_cases h0:b=0
  ·rw [h0] at hL';have:L=0:=by rw [<-hL'];decide
   omega
  ·have h3:=c3 h0;have:L<n+1:=(Nat.pow_lt_pow_iff_right (show 1<2 by omega)).1 (by rw [Nat.pow_succ];omega);omega
 unfold b8z.f bits_Len32.f;rw [Ya (by omega),Ya (by omega)];simp only [Zl,Zu];rw [hL,Ya (by omega),Ya (by omega),poly_at_cm a b ha a0 L (by omega)];obtain ⟨i,rfl⟩: ∃i,n=L+i:=⟨n - L,by omega⟩;rw [cmN_more a b L c2 i]
theorem poly_mulmod16 (a b:Nat) (ha:a<65536) (hb:b<65536):bQz.f 40 (a:Int) (b:Int) 69643=some ((gm 15 69643 a b:Nat):Int):=by
 unfold bQz.f;rw [mul_f a b 16 (by omega) (by omega) (by omega)];simp only [Zl];have hc:cmN a b 16<2^32:=cmN_lt a b 16 (by omega) 16;rw [show (69643:Int)=((69643:Nat):Int) from rfl,mod_f 69643 16 (by decide) (by decide) (by omega) 16 40 _ (by omega) (by omega) hc]
 have hc':cmN a b 16<2^(16+15):=by
  have h: ∀n,cmN a b (n+1)<2^(16+n):=by
   intro n;have h1:cmN a b n<2^(16+n):=cmN_lt a b 16 (by omega) n;have h2:a*2^n<2^(16+n):=cYz (by omega);unfold cmN;split
   ·exact Nat.xor_lt_two_pow h1 h2
   ·exact h1
  exact h 15
 simp only [Zl];rw [eNz (n:=15) (k:=1) _ hc',cm_gm16 a b ha hb]
end Go.Proofs.Xc
end
section
namespace Go.Proofs.Xc
open Go.RowKit Go.Proofs.Pw Go.Proofs.Pl Go.Proofs.Pm Tryz
attribute [local go_sem] a7z a8z bgz bhz aVz aWz a9z baz
theorem rmul_l0 (a b n:Nat) (ha:a<2^16) (hb:b<2^n) (hn:n<=16): ∀(j i k:Nat),i+j=n->j<k->aGz.l0 k ((b / 2^i:Nat):Int) ((cmN a b i:Nat):Int) ((a*2^i:Nat):Int)=some ((cmN a b n:Nat):Int):=by
 intro j
 induction j with
 |zero=>
  intro i k hi hk;obtain ⟨k,rfl⟩: ∃m,k=m+1:=⟨k - 1,by omega⟩;obtain rfl:i=n:=by omega
  unfold aGz.l0;rw [Nat.div_eq_of_lt hb,Yb (by omega)]
 |succ j ih=>
  intro i k hi hk;obtain ⟨k,rfl⟩: ∃m,k=m+1:=⟨k - 1,by omega⟩;have a0:b<2^16:=Zp hb (Nat.pow_le_pow_right (by omega) hn);have hdl:=Nat.div_le_self b (2^i);unfold aGz.l0;by_cases h0:b / 2^i=0
  ·rw [Yb (by omega)]
   have hbi:b<2^i:=by
    rcases Nat.lt_or_ge b (2^i) with h|h
    ·exact h
    ·have:=Nat.div_pos h (Nat.pow_pos (by omega));omega
   rw [<-hi,cmN_more a b i hbi]
  ·have ih':=ih (i+1) k (by omega) (by omega);have e1:b / 2^(i+1)=b / 2^i / 2:=by rw [Nat.pow_succ,Nat.div_div_eq_div_mul]
   have e2:a*2^(i+1)=2*(a*2^i):=by rw [Nat.pow_succ];rw [Nat.mul_comm (2^i), <-Nat.mul_assoc,Nat.mul_comm a 2,Nat.mul_assoc]
   have l1:a*2^i<2^32:=Zp (cYz ha) (Nat.pow_le_pow_right (by omega) (by omega));have l2:cmN a b i<2^32:=Zp (cmN_lt a b 16 ha i) (Nat.pow_le_pow_right (by omega) (by omega));have e3:IntKind.u64.wrap (2*((a*2^i:Nat):Int))=((a*2^(i+1):Nat):Int):=by rw [IntKind.wrap_u64,e2];omega
   have e4:(Int.tdiv ((b / 2^i:Nat):Int) 2) % 4294967296=((b / 2^(i+1):Nat):Int):=by
    rw [Int.tdiv_eq_ediv_of_nonneg (Int.natCast_nonneg _),e1]
    generalize b / 2^i=c at *
    omega
   rw [Ya (by omega),e3,e4];by_cases ht:b.testBit i=true
   ·rw [Ya (by rw [Int.tmod_eq_emod_of_nonneg (by omega)];have:=(diz b i).1 ht;omega),u64_xor _ _ (by omega) (by omega)];rwa [show cmN a b (i+1)=if b.testBit i then cmN a b i^^^(a*2^i) else cmN a b i from rfl,Ya ht] at ih'
   ·rw [Yb (fun h=>ht ((diz b i).2 (by rw [Int.tmod_eq_emod_of_nonneg (by omega)] at h;omega)))];rwa [show cmN a b (i+1)=if b.testBit i then cmN a b i^^^(a*2^i) else cmN a b i from rfl,Yb ht] at ih'
theorem rmul_f (a b n k:Nat) (ha:a<2^16) (hb:b<2^n) (hn:n<=16) (hk:n<k):aGz.f k (a:Int) (b:Int)=some ((cmN a b n:Nat):Int):=by
 have h:=rmul_l0 a b n ha hb hn n 0 k (by omega) hk;unfold aGz.f;rw [IntKind.wrap_u64,show ((a:Int) % 18446744073709551616)=(a:Int) by omega]
 simpa [cmN] using h
theorem rdeg_l0: ∀(m x k:Nat) (n:Int),2^m<=x->x<2^(m+1)->m+1<k->m<=40-> -1<=n->n+(m:Int)<=100->auz.l0 k (x:Int) n=some (n+(m:Int)+1)
 |0,x,k,n,h1,h2,hk,_,hn,hn2=>by
  obtain rfl:x=1:=by simp at h1 h2;omega
  obtain ⟨k,rfl⟩: ∃m,k=m+1+1:=⟨k - 2,by omega⟩;unfold auz.l0;rw [Ya (by omega),show IntKind.u64.wrap (Int.tdiv ((1:Nat):Int) 2)=0 from rfl];unfold auz.l0;rw [Yb (by omega),cTz (by omega) (by omega)];congr 1
  omega
 |m+1,x,k,n,h1,h2,hk,hm,hn,hn2=>by
  obtain ⟨k,rfl⟩: ∃m,k=m+1:=⟨k - 1,by omega⟩;have h3:x<2^64:=Zp h2 (Nat.pow_le_pow_right (by omega) (by omega));have hp:0<2^(m+1):=Nat.pow_pos (by omega);unfold auz.l0;rw [Ya (by omega),Int.tdiv_eq_ediv_of_nonneg (by omega),IntKind.wrap_u64,show ((x:Int) / 2 % 18446744073709551616)=((x / 2:Nat):Int) by omega,cTz (by omega) (by omega)];rw [rdeg_l0 m (x / 2) k (n+1) (by rw [Nat.pow_succ] at h1;omega) (by rw [Nat.pow_succ] at h2;omega) (by omega) (by omega) (by omega) (by omega)];congr 1
  omega
theorem rdeg_f (m x k:Nat) (h1:2^m<=x) (h2:x<2^(m+1)) (hk:m+1<k) (hm:m<=40):auz.f k (x:Int)=some (m:Int):=by
 unfold auz.f;rw [rdeg_l0 m x k (-1) h1 h2 hk hm (by omega) (by omega)];congr 1
 omega
theorem rdeg_0 (k:Nat) (hk:0<k):auz.f k ((0:Nat):Int)=some (-1):=by
 obtain ⟨k,rfl⟩: ∃m,k=m+1:=⟨k - 1,by omega⟩;unfold auz.f auz.l0;rw [Yb (by omega)]
theorem rpow_l0 (n:Nat) (hn:n<=40): ∀(j i k:Nat),i+j=n->j<k->aEz.l0 k (n:Int) ((2^i:Nat):Int) (i:Int)=some ((2^n:Nat):Int):=by
 intro j
 induction j with
 |zero=>
  intro i k hi hk;obtain ⟨k,rfl⟩: ∃m,k=m+1:=⟨k - 1,by omega⟩;obtain rfl:i=n:=by omega
  unfold aEz.l0;rw [Yb (by omega)]
 |succ j ih=>
  intro i k hi hk;obtain ⟨k,rfl⟩: ∃m,k=m+1:=⟨k - 1,by omega⟩;have l1:2^i<2^63:=Nat.pow_lt_pow_right (by omega) (by omega);have e3:IntKind.u64.wrap (2*((2^i:Nat):Int))=((2^(i+1):Nat):Int):=by rw [IntKind.wrap_u64,Nat.pow_succ];omega
  unfold aEz.l0;rw [Ya (by omega),e3,cTz (by omega) (by omega)];exact ih (i+1) k (by omega) (by omega)
theorem rpow_f (n k:Nat) (hn:n<=40) (hk:n<k):aEz.f k (n:Int)=some ((2^n:Nat):Int):=rpow_l0 n hn n 0 k (by omega) hk
theorem rmod_l0 (q d:Nat) (hq:q<2^(d+1)) (hqd:q.testBit d=true) (hd:d<=16): ∀(n k a:Nat),n+60<k->d+n<=40->a<2^(d+n)->azz.l0 k (a:Int) (q:Int) (d:Int)=some ((redN q d n a:Nat):Int)
 |0,k,a,hk,_,ha=>by
  obtain ⟨k,rfl⟩: ∃m,k=m+1:=⟨k - 1,by omega⟩;have b0:a<2^16:=Zp ha (Nat.pow_le_pow_right (by omega) (by omega))
  have a0: ∃t:Int,auz.f k (a:Int)=some t/\t<(d:Int):=by
   by_cases h0:a=0
   ·exact ⟨-1,by rw [h0];exact rdeg_0 k (by omega),by omega⟩
   ·refine ⟨_,rdeg_f a.log2 a k (Nat.log2_self_le h0) Nat.lt_log2_self (by have:=(Nat.log2_lt h0).2 b0;omega) (by have:=(Nat.log2_lt h0).2 b0;omega),?_⟩;have:=(Nat.log2_lt h0).2 ha;omega
  obtain ⟨t,ht,htd⟩:=a0;unfold azz.l0 redN;rw [ht,Zl,Yb (by omega),show ((a:Int) % 4294967296)=(a:Int) by omega]
 |n+1,k,a,hk,hn,ha=>by
  have c0:a<2^40:=Zp ha (Nat.pow_le_pow_right (by omega) (by omega));unfold redN;by_cases hb:a.testBit (d+n)=true
  ·obtain ⟨k,rfl⟩: ∃m,k=m+1:=⟨k - 1,by omega⟩;have hge:2^(d+n)<=a:=Nat.ge_two_pow_of_testBit hb;have a0:=rdeg_f (d+n) a k hge ha (by omega) (by omega);have hs:q*2^n<2^41:=Zp (cYz hq) (Nat.pow_le_pow_right (by omega) (by omega));have d0:q<2^17:=Zp hq (Nat.pow_le_pow_right (by omega) (by omega));have hc:=clr1_lt hq hqd (d+n) a (by omega) ha
   have ec:clr1 q d (d+n) a=a^^^(q*2^n):=by
    unfold clr1;rw [Ya hb,show d+n - d=n by omega]
   have hcast:((q:Int)*((2^n:Nat):Int))=((q*2^n:Nat):Int):=by rw [Int.natCast_mul]
   unfold azz.l0;rw [a0,Zl,Ya (by omega),Zl,cTz (by omega) (by omega),show (((d+n:Nat):Int) - (d:Int))=(n:Int) by omega,rpow_f n k (by omega) (by omega),Zl];rw [show IntKind.u64.wrap (q:Int)=(q:Int) by rw [IntKind.wrap_u64];omega,hcast,show IntKind.u64.wrap ((q*2^n:Nat):Int)=((q*2^n:Nat):Int) by rw [IntKind.wrap_u64];omega,u64_xor _ _ (by omega) (by omega), <-ec];exact rmod_l0 q d hq hqd hd n k _ (by omega) (by omega) hc
  ·have hlt : a < 2 ^ (d + n) := by
    rw [bMz (show a<2^((d+n)+1) from ha)];simpa using hb
   have ec:clr1 q d (d+n) a=a:=by unfold clr1;rw [Yb hb]
   rw [ec];exact rmod_l0 q d hq hqd hd n k a (by omega) (by omega) hlt
theorem rmod_f (q d:Nat) (hq:q<2^(d+1)) (hqd:q.testBit d=true) (hd:d<=16) (n k a:Nat) (hk:n+60<k) (hn:d+n<=40) (ha:a<2^(d+n)):azz.f k (a:Int) (q:Int)=some ((redN q d n a:Nat):Int):=by
 have a0:q<2^17:=Zp hq (Nat.pow_le_pow_right (by omega) (by omega));have hge:2^d<=q:=Nat.ge_two_pow_of_testBit hqd;have hp:0<2^d:=Nat.pow_pos (by omega);unfold azz.f;rw [Yb (by omega),IntKind.wrap_u64,show ((q:Int) % 18446744073709551616)=(q:Int) by omega,rdeg_f d q k hge hq (by omega) (by omega),Zl];exact rmod_l0 q d hq hqd hd n k a hk hn ha
theorem cm_lt1 (a b n:Nat) (hn:0<n) (ha:a<2^n):cmN a b n<2^(n+(n - 1)):=by
 obtain ⟨m,rfl⟩: ∃m,n=m+1:=⟨n - 1,by omega⟩;have h1:cmN a b m<2^(m+1+m):=cmN_lt a b (m+1) ha m;have h2:a*2^m<2^(m+1+m):=cYz ha;rw [Nat.add_sub_cancel];unfold cmN;split
 ·exact Nat.xor_lt_two_pow h1 h2
 ·exact h1
theorem rmm8 (k a b:Nat) (hk:100<=k) (ha:a<256) (hb:b<256):((aGz.f k (a:Int) (b:Int)).bind fun t=>((azz.f k t 285).bind fun u=>some u))=some ((gm 7 285 a b:Nat):Int):=by
 rw [rmul_f a b 8 k (by omega) (by omega) (by omega) (by omega),Zl,show (285:Int)=((285:Nat):Int) from rfl,rmod_f 285 8 (by decide) (by decide) (by omega) 7 k _ (by omega) (by omega) (cm_lt1 a b 8 (by omega) (by omega)),Zl,cm_gm8 a b ha hb]
theorem rmm16 (k a b:Nat) (hk:100<=k) (ha:a<65536) (hb:b<65536):((aGz.f k (a:Int) (b:Int)).bind fun t=>((azz.f k t 69643).bind fun u=>some u))=some ((gm 15 69643 a b:Nat):Int):=by
 rw [rmul_f a b 16 k (by omega) (by omega) (by omega) (by omega),Zl,show (69643:Int)=((69643:Nat):Int) from rfl,rmod_f 69643 16 (by decide) (by decide) (by omega) 15 k _ (by omega) (by omega) (cm_lt1 a b 16 (by omega) (by omega)),Zl,cm_gm16 a b ha hb]
theorem rsize_f (wb:Int) (hw:wb=8\/wb=16):axz.f 40 wb=some (fsize wb):=by
 rcases hw with rfl|rfl<;>decide+kernel
def bGz.f (k:Nat) (a0:Int) (a1:Int):Option (Bool):=if a1>=0 then ((axz.f k a0).bind fun t484=>(some (decide (a1<t484)))) else (some false)
theorem bGz.mono: ∀a0 a1 k,LeO (bGz.f k a0 a1) (bGz.f (k+1) a0 a1):=by
 intro a0 a1 k;unfold bGz.f
 repeat' with_reducible first|apply axz.mono|apply Yg|apply Yh|apply Yi|refine Yj ?_ fun _=>?_
theorem bGz.calls (k:Nat) (a0 a1:Int) (r:Bool) (w:World) (h:bGz.f k a0 a1=some r):
  Calls prog 106 #[.int .i64 a0, .int .i64 a1] w fun e w'=>e= .returned (.bool r)/\Drawn0 w w':=by
 have H:=h;clear h;unfold bGz.f at H;by_cases c3:a1>=0
 ·rw [Ya c3] at H;have b0:decide (0<=a1)=true:=Zd c3;clear c3;obtain ⟨c0,A4,H⟩:=ob_ H
  (try dsimp only at H)
  obtain rfl:=Zn H;go_enter func106,ntmps106
  go_wp2_with (first|(go_at_call 156;(with_reducible refine (axz.calls k a0 c0 _ A4.o).mono ?_);rintro e w' ⟨rfl,⟨nd,rfl⟩⟩))
  go_ret;exact ⟨sd_,dn_⟩
 ·rw [Yb c3] at H;have b0:decide (0<=a1)=false:=Ze c3;clear c3;obtain rfl:=Zn H;go_enter func106,ntmps106;go_wp2;go_ret;exact ⟨sd_,dn_⟩
def afz.f (k:Nat) (a0:Int) (a1:Int):Option (Bool):=if a0=8\/a0=16 then some (inF a0 a1) else bGz.f k a0 a1
theorem afz.mono: ∀a0 a1 k,LeO (afz.f k a0 a1) (afz.f (k+1) a0 a1):=by
 intro a0 a1 k;unfold afz.f;exact LeO.ite (LeO.refl _) (bGz.mono _ _ _)
theorem afz.slow (k:Nat) (a0 a1:Int) (r:Bool) (h:afz.f k a0 a1=some r): ∃K,bGz.f K a0 a1=some r:=by
 unfold afz.f at h;by_cases hw:a0=8\/a0=16
 ·rw [Ya hw] at h;obtain rfl:=Zn h;refine ⟨40,?_⟩;unfold bGz.f inF;rw [rsize_f a0 hw,Zl];by_cases h0:a1>=0
  ·rw [Ya h0,Zd h0,Bool.true_and]
  ·rw [Yb h0,Ze h0,Bool.false_and]
 ·rw [Yb hw] at h;exact ⟨k,h⟩
theorem afz.calls (k:Nat) (a0 a1:Int) (r:Bool) (w:World) (h:afz.f k a0 a1=some r):
 Calls prog 106 #[.int .i64 a0, .int .i64 a1] w fun e w'=>e= .returned (.bool r)/\Drawn0 w w':=by
 obtain ⟨K,hK⟩:=afz.slow k a0 a1 r h;exact bGz.calls K a0 a1 r w hK
mutual
def aez.j0:Nat->Int->List (List Int)->Bool->Option (Bool)
 |0,_,_,_=>none
 |k+1,x0,x1,x28=>if x28=true then (some false) else (aez.l0 k x0 x1 0)
def aez.l0:Nat->Int->List (List Int)->Int->Option (Bool)
 |0,_,_,_=>none
 |k+1,x0,x1,x5=>if x5<(x1.length:Int) then (if 0<=x5 then (if 0<(x1.length:Int) then (if ((rd_L4 x1 x5).length:Int)=((rd_L4 x1 0).length:Int) then (aez.l1 k x0 x1 x5 0) else (some false)) else (none)) else (none)) else (some true)
def aez.l1:Nat->Int->List (List Int)->Int->Int->Option (Bool)
 |0,_,_,_,_=>none
 |k+1,x0,x1,x5,x6=>if 0<=x5 then (if x5<(x1.length:Int) then (if x6<((rd_L4 x1 x5).length:Int) then (if 0<=x6 then ((afz.f k x0 (rd (rd_L4 x1 x5) x6)).bind fun t155=>(if t155=true then (aez.l1 k x0 x1 x5 (wrap64 (x6+1))) else (some false))) else (none)) else (aez.l0 k x0 x1 (wrap64 (x5+1)))) else (none)) else (none)
end
def aez.f (k:Nat) (a0:Int) (l1:List (List Int)):Option (Bool):=if (l1.length:Int)<1 then (aez.j0 k a0 l1 true) else (if (l1.length:Int)>20 then (aez.j0 k a0 l1 true) else (if 0<(l1.length:Int) then (if ((rd_L4 l1 0).length:Int)<1 then (aez.j0 k a0 l1 true) else (aez.j0 k a0 l1 (decide (((rd_L4 l1 0).length:Int)>20)))) else (none)))
theorem aez.a6z: ∀k,(∀y0 y1 y2,LeO (aez.j0 k y0 y1 y2) (aez.j0 (k+1) y0 y1 y2))/\(∀y0 y1 y2,LeO (aez.l0 k y0 y1 y2) (aez.l0 (k+1) y0 y1 y2))/\(∀y0 y1 y2 y3,LeO (aez.l1 k y0 y1 y2 y3) (aez.l1 (k+1) y0 y1 y2 y3))
 |0=>⟨fun _ _ _ r h=>by simp [aez.j0] at h,fun _ _ _ r h=>by simp [aez.l0] at h,fun _ _ _ _ r h=>by simp [aez.l1] at h⟩
 |k+1=>by
  obtain ⟨a0,c0,b0⟩:=aez.a6z k;refine ⟨?_,?_,?_⟩
  ·intro y0 y1 y2;unfold aez.j0
   repeat' with_reducible first|apply a0|apply c0|apply b0|apply afz.mono|apply Yg|apply Yh|apply Yi|refine Yj ?_ fun _=>?_
  ·intro y0 y1 y2;unfold aez.l0
   repeat' with_reducible first|apply a0|apply c0|apply b0|apply afz.mono|apply Yg|apply Yh|apply Yi|refine Yj ?_ fun _=>?_
  ·intro y0 y1 y2 y3;unfold aez.l1
   repeat' with_reducible first|apply a0|apply c0|apply b0|apply afz.mono|apply Yg|apply Yh|apply Yi|refine Yj ?_ fun _=>?_
theorem aez.mono: ∀a0 a1 k,LeO (aez.f k a0 a1) (aez.f (k+1) a0 a1):=by
 intro a0 a1 k;obtain ⟨b0,d0,c0⟩:=aez.a6z k;unfold aez.f
 repeat' with_reducible first|apply b0|apply d0|apply c0|apply afz.mono|apply Yg|apply Yh|apply Yi|refine Yj ?_ fun _=>?_
theorem aez.calls (k:Nat) (a0:Int) (A1:Option Addr) (c1:Nat) (l1:List (List Int)) (r:Bool) (w:World) (o2:Kd.C (Kd.slice 3 (Kd.int .i64)) w A1 l1.length l1) (r2:l1.length<=c1) (h:aez.f k a0 l1=some r):
  Calls prog 98 #[.int .i64 a0, .slice A1 l1.length c1] w fun e w'=>e= .returned (.bool r)/\Drawn0 w w':=by
 have Q0:=Za o2;have A2:=Za r2;clear o2 r2;have H:=h;clear h;unfold aez.f at H;have d2:=Za H;clear H;go_enter func98,ntmps98
 go_upto_region 1 with (fail)
 repeat (go_quiet (fail);go_upto_region 1 with (fail))
 go_cut [28] (fun v2 wc=> ∃(kq:Nat) (P0:Bool),v2= .bool P0/\Aside0 (aez.j0 kq a0 l1 P0=some r)/\Aside0 (kq<=k)/\Drawn0 w wc)
 case first=>
  have H:=d2.o;clear d2;by_cases c4:(l1.length:Int)<1
  ·rw [Ya c4] at H;have X0:=Zd c4;have g2:decide (l1.length<1)=true:=Zd (by omega);clear c4
   (first|rw [X0] |(simp only [i64_w,i32_w];rw [X0])|skip)
   have H':=Za H;clear H;go_wp2
   repeat (go_quiet (fail);try go_wp2)
   go_meet
   case rel=>exact ⟨_,(true),sd_,H',⟨by first|omega|exact Zv _⟩,dn_⟩
  ·rw [Yb c4] at H;have X0:=Ze c4;have g2:decide (l1.length<1)=false:=Ze (by omega);clear c4
   (first|rw [X0] |(simp only [i64_w,i32_w];rw [X0])|skip)
   by_cases c5:(l1.length:Int)>20
   ·rw [Ya c5] at H;have f2:decide (20<(l1.length:Int))=true:=Zd c5;have i2:decide (20<l1.length)=true:=Zd (by omega);clear c5;have H':=Za H;clear H;go_wp2
    repeat (go_quiet (fail);try go_wp2)
    go_meet
    case rel=>exact ⟨_,(true),sd_,H',⟨by first|omega|exact Zv _⟩,dn_⟩
   ·rw [Yb c5] at H;have f2:decide (20<(l1.length:Int))=false:=Ze c5;have i2:decide (20<l1.length)=false:=Ze (by omega);clear c5;obtain ⟨c6,H⟩:=ig_ H;have y2:=Zd c6;have w2:decide (0<l1.length)=true:=Zd (by omega);clear c6;by_cases c7:((rd_L4 l1 0).length:Int)<1
    ·rw [Ya c7] at H;have c2:=Zd c7;have e2:decide ((rd_L4 l1 0).length<1)=true:=Zd (by omega);clear c7;have H':=Za H;clear H;have J0:0<=(0:Int):=(by omega);have G0:0<(l1.length:Int):=Zc as_;obtain ⟨j1,C1,q1,p1,e0,n0,p0⟩:=at_L4 Q0.o 0 J0 G0;cases p1
     have N1:(0<l1.length)=True:=Zz (by omega)
     (try rw [show ((0:Int)).toNat=0 from rfl] at e0)
     (try rw [Addr.add_zero'] at e0)
     have b1:=Za p0;have f1:=Za n0;clear p0 n0;replace J0:=Zz J0;replace G0:=Zz G0;go_wp2
     repeat (go_quiet (fail);try go_wp2)
     go_meet
     case rel=>exact ⟨_,(true),sd_,H',⟨by first|omega|exact Zv _⟩,dn_⟩
    ·rw [Yb c7] at H;have c2:=Ze c7;have e2:decide ((rd_L4 l1 0).length<1)=false:=Ze (by omega);clear c7;have H':=Za H;clear H;have J0:0<=(0:Int):=(by omega);have G0:0<(l1.length:Int):=Zc as_;obtain ⟨j1,C1,q1,p1,e0,n0,p0⟩:=at_L4 Q0.o 0 J0 G0;cases p1
     have N1:(0<l1.length)=True:=Zz (by omega)
     (try rw [show ((0:Int)).toNat=0 from rfl] at e0)
     (try rw [Addr.add_zero'] at e0)
     have b1:=Za p0;have f1:=Za n0;clear p0 n0;replace J0:=Zz J0;replace G0:=Zz G0;have E1:0<=(0:Int):=(by omega);have r1:0<(l1.length:Int):=Zc as_;obtain ⟨O1,Z1,X1,a2,A0,K0,N0⟩:=at_L4 Q0.o 0 E1 r1;obtain rfl:j1=O1:=(by injection a2);have u2:(0<l1.length)=True:=Zz (by omega)
     (try rw [show ((0:Int)).toNat=0 from rfl] at A0)
     (try rw [Addr.add_zero'] at A0)
     have T1:=Za N0;have S1:=Za K0;clear N0 K0;replace E1:=Zz E1;replace r1:=Zz r1;have Y0:=Zn (e0.symm.trans A0);injection Y0 with Y0 I1 M1
     subst Y0;subst M1;clear I1;go_wp2
     repeat (go_quiet (fail);try go_wp2)
     go_meet
     case rel=>exact ⟨_,(decide (((rd_L4 l1 0).length:Int)>20)),sd_,H',⟨by first|omega|exact Zv _⟩,dn_⟩
 case rest=>
  clear d2;obtain ⟨kq,P0,rfl,HA,R1,⟨z2,rfl⟩⟩:=hcut;rcases kq with _|s2
  ·exact Yf HA.o (by simp [aez.j0])
  have H:=HA.o;clear HA;simp only [aez.j0] at H;by_cases c8:P0=true
  ·subst c8;rw [Ya rfl] at H;obtain rfl:=Zn H;go_wp2
   repeat (go_quiet (fail);try go_wp2)
   go_ret;exact ⟨sd_,dn_⟩
  ·replace c8:=Zr c8;subst c8;rw [Yb (show¬(false=true) by decide)] at H;have H':=Za H;clear H;go_wp2
   repeat (go_quiet (fail);try go_wp2)
   go_loopg [5] s2 (fun kq v5 w'=> ∃(b0:Int),v5= .int .i64 b0/\Aside0 (aez.l0 kq a0 l1 b0=some r)/\Aside0 (kq<=s2)/\Drawn0 w w')
   case atStart=>exact ⟨(0),sd_,H',⟨Zv _⟩,dn_⟩
   clear H';obtain ⟨b0,rfl,HA,W1,⟨m2,rfl⟩⟩:=hrel;rcases gk with _|k2
   ·exact Yf HA.o (by simp [aez.l0])
   have H:=HA.o;clear HA;simp only [aez.l0] at H;by_cases c9:b0<(l1.length:Int)
   rotate_left
   ·rw [Yb c9] at H;have K1:=Ze c9;clear c9;obtain rfl:=Zn H;go_wp2
    repeat (go_quiet (fail);try go_wp2)
    go_ret;exact ⟨sd_,dn_⟩
   rw [Ya c9] at H;have K1:=Zd c9;clear c9;obtain ⟨Q1,H⟩:=ih_ H;obtain ⟨p2,H⟩:=ig_ H;have H1:=Zd p2;have J1:decide (0<l1.length)=true:=Zd (by omega);clear p2;by_cases U0:((rd_L4 l1 b0).length:Int)=((rd_L4 l1 0).length:Int)
   rotate_left
   ·rw [Yb U0] at H;have k1:(((rd_L4 l1 b0).length:Int)==((rd_L4 l1 0).length:Int))=false:=Zq U0;have n1:(((rd_L4 l1 b0).length:Int) !=((rd_L4 l1 0).length:Int))=true:=Yd U0
    have m1:((rd_L4 l1 b0).length==(rd_L4 l1 0).length)=false:=by first|simpa using U0|(simp at U0|-;omega)
    obtain rfl:=Zn H;have B0:0<=(b0:Int):=Zc as_;have C0:b0<(l1.length:Int):=Zc as_;obtain ⟨r0,y1,u1,D1,O0,q0,g0⟩:=at_L4 Q0.o b0 B0 C0;cases D1
    have Z0:=Za g0;have a1:=Za q0;clear g0 q0;replace B0:=Zz B0;replace C0:=Zz C0;have E0:0<=(0:Int):=(by omega);have D0:0<(l1.length:Int):=Zc as_;obtain ⟨R0,B1,s1,z1,f0,i0,o0⟩:=at_L4 Q0.o 0 E0 D0;obtain rfl:r0=R0:=(by injection z1);have P1:(0<l1.length)=True:=Zz (by omega)
    (try rw [show ((0:Int)).toNat=0 from rfl] at f0)
    (try rw [Addr.add_zero'] at f0)
    have e1:=Za o0;have g1:=Za i0;clear o0 i0;replace E0:=Zz E0;replace D0:=Zz D0;go_wp2
    repeat (go_quiet (fail);try go_wp2)
    go_ret;exact ⟨sd_,dn_⟩
   rw [Ya U0] at H;have k1:(((rd_L4 l1 b0).length:Int)==((rd_L4 l1 0).length:Int))=true:=Ye U0;have n1:(((rd_L4 l1 b0).length:Int) !=((rd_L4 l1 0).length:Int))=false:=Yc U0
   have m1:((rd_L4 l1 b0).length==(rd_L4 l1 0).length)=true:=by first|simpa using U0|(simp at U0|-;omega)
   clear U0;have H':=Za H;clear H;have B0:0<=(b0:Int):=Zc as_;have C0:b0<(l1.length:Int):=Zc as_;obtain ⟨r0,y1,u1,D1,O0,q0,g0⟩:=at_L4 Q0.o b0 B0 C0;cases D1
   have Z0:=Za g0;have a1:=Za q0;clear g0 q0;replace B0:=Zz B0;replace C0:=Zz C0;have E0:0<=(0:Int):=(by omega);have D0:0<(l1.length:Int):=Zc as_;obtain ⟨R0,B1,s1,z1,f0,i0,o0⟩:=at_L4 Q0.o 0 E0 D0;obtain rfl:r0=R0:=(by injection z1);have P1:(0<l1.length)=True:=Zz (by omega)
   (try rw [show ((0:Int)).toNat=0 from rfl] at f0)
   (try rw [Addr.add_zero'] at f0)
   have e1:=Za o0;have g1:=Za i0;clear o0 i0;replace E0:=Zz E0;replace D0:=Zz D0;go_wp2
   repeat (go_quiet (fail);try go_wp2)
   go_loopg [6] k2 (fun kq v6 w'=> ∃(z0:Int),v6= .int .i64 z0/\Aside0 (aez.l1 kq a0 l1 b0 z0=some r)/\Aside0 (kq<=k2)/\Drawn0 w w')
   case atStart=>exact ⟨(0),sd_,H',⟨Zv _⟩,dn_⟩
   clear H';clear K1 Q1 H1 J1 k1 n1 m1 O0 f0 B0 E0 C0 D0;obtain ⟨z0,rfl,HA,V1,⟨m3,rfl⟩⟩:=hrel;rcases gk with _|k3
   ·exact Yf HA.o (by simp [aez.l1])
   have H:=HA.o;clear HA;simp only [aez.l1] at H;obtain ⟨q2,H⟩:=ih_ H;obtain ⟨l2,H⟩:=ih_ H;by_cases G1:z0<((rd_L4 l1 b0).length:Int)
   rotate_left
   ·rw [Yb G1] at H;have L1:=Ze G1;clear G1;have H':=Za H;clear H;have u0:0<=(b0:Int):=Zc as_;have v0:b0<(l1.length:Int):=Zc as_;obtain ⟨F0,V0,W0,T0,t0,c0,d0⟩:=at_L4 Q0.o b0 u0 v0;obtain rfl:r0=F0:=(by injection T0);have L0:=Za d0;have M0:=Za c0;clear d0 c0;replace u0:=Zz u0;replace v0:=Zz v0;go_wp2
    repeat (go_quiet (fail);try go_wp2)
    go_roundg k3
    case measure=>have:=R1.o;have:=W1.o;have:=V1.o;omega
    case rel=>exact ⟨(wrap64 (b0+1)),sd_,H',⟨by have:=R1.o;have:=W1.o;have:=V1.o;omega⟩,dn_⟩
   rw [Ya G1] at H;have L1:=Zd G1;clear G1;obtain ⟨t2,H⟩:=ih_ H;obtain ⟨b2,n2,H⟩:=ob_ H
   (try dsimp only at H)
   by_cases U1:b2=true
   rotate_left
   ·replace U1:=Zr U1;subst U1;rw [Yb (show¬(false=true) by decide)] at H;obtain rfl:=Zn H;have u0:0<=(b0:Int):=Zc as_;have v0:b0<(l1.length:Int):=Zc as_;obtain ⟨F0,V0,W0,T0,t0,c0,d0⟩:=at_L4 Q0.o b0 u0 v0;obtain rfl:r0=F0:=(by injection T0);have L0:=Za d0;have M0:=Za c0;clear d0 c0;replace u0:=Zz u0;replace v0:=Zz v0;have H0:0<=(b0:Int):=Zc as_;have I0:b0<(l1.length:Int):=Zc as_;obtain ⟨S0,F1,o1,t1,w0,h0,k0⟩:=at_L4 Q0.o b0 H0 I0;obtain rfl:r0=S0:=(by injection t1);have y0:=Za k0;have d1:=Za h0;clear k0 h0;replace H0:=Zz H0;replace I0:=Zz I0;have Y0:=Zn (t0.symm.trans w0);injection Y0 with Y0 I1 M1
    subst Y0;subst M1;clear I1;obtain ⟨_,v1,i1,Y1,j2⟩:=ix_ y0.o z0 as_ as_;cases v1
    go_wp2_with (first|(go_at_call 106;(with_reducible refine (afz.calls k3 a0 (rd (rd_L4 l1 b0) z0) false _ n2.o).mono ?_);rintro e w' ⟨rfl,⟨nd,rfl⟩⟩;(try exact dd_)))
    go_ret;exact ⟨sd_,dn_⟩
   subst U1;rw [Ya rfl] at H;have H':=Za H;clear H;have u0:0<=(b0:Int):=Zc as_;have v0:b0<(l1.length:Int):=Zc as_;obtain ⟨F0,V0,W0,T0,t0,c0,d0⟩:=at_L4 Q0.o b0 u0 v0;obtain rfl:r0=F0:=(by injection T0);have L0:=Za d0;have M0:=Za c0;clear d0 c0;replace u0:=Zz u0;replace v0:=Zz v0;have H0:0<=(b0:Int):=Zc as_;have I0:b0<(l1.length:Int):=Zc as_;obtain ⟨S0,F1,o1,t1,w0,h0,k0⟩:=at_L4 Q0.o b0 H0 I0;obtain rfl:r0=S0:=(by injection t1);have y0:=Za k0;have d1:=Za h0;clear k0 h0;replace H0:=Zz H0;replace I0:=Zz I0;have Y0:=Zn (t0.symm.trans w0);injection Y0 with Y0 I1 M1
   subst Y0;subst M1;clear I1;obtain ⟨_,v1,i1,Y1,j2⟩:=ix_ y0.o z0 as_ as_;cases v1
   go_wp2_with (first|(go_at_call 106;(with_reducible refine (afz.calls k3 a0 (rd (rd_L4 l1 b0) z0) true _ n2.o).mono ?_);rintro e w' ⟨rfl,⟨nd,rfl⟩⟩;(try exact dd_)))
   go_roundg k3
   case measure=>have:=R1.o;have:=W1.o;have:=V1.o;omega
   case rel=>exact ⟨(wrap64 (z0+1)),sd_,H',⟨by have:=R1.o;have:=W1.o;have:=V1.o;omega⟩,dn_⟩
def byz.f (k:Nat) (a0 a1:Int) (a2:Int):Option (Int):=(aGz.f k a0 a1).bind fun t499=>((azz.f k t499 a2).bind fun t500=>(some t500))
theorem byz.mono: ∀a0 a1 a2 k,LeO (byz.f k a0 a1 a2) (byz.f (k+1) a0 a1 a2):=by
 intro a0 a1 a2 k;unfold byz.f
 repeat' with_reducible first|apply azz.mono|apply aGz.mono|apply Yg|apply Yh|apply Yi|refine Yj ?_ fun _=>?_
theorem byz.calls (k:Nat) (a0 a1 a2 r:Int) (w:World) (h:byz.f k a0 a1 a2=some r):
  Calls prog 157 #[.int .u32 a0, .int .u32 a1, .int .u32 a2] w fun e w'=>e= .returned (.int .u32 r)/\Drawn0 w w':=by
 have H:=h;clear h;unfold byz.f at H;obtain ⟨b0,A4,H⟩:=ob_ H
 (try dsimp only at H)
 obtain ⟨c0,A5,H⟩:=ob_ H
 (try dsimp only at H)
 obtain rfl:=Zn H;go_enter func157,ntmps157
 go_wp2_with (first|((with_reducible refine aaz (f:=181) rfl ?_);refine gl_ (some 9) func181 #[.int .u32 a0, .int .u32 a1] ?_;(with_reducible refine (aGz.calls k a0 a1 b0 _ A4.o).mono ?_);rintro e w' ⟨rfl,⟨nd,rfl⟩⟩;refine ⟨_,rfl,?_⟩)|((with_reducible refine aaz (f:=180) rfl ?_);refine gl_ (some 11) func180 #[.int .u64 b0, .int .u32 a2] ?_;(with_reducible refine (azz.calls k b0 a2 c0 _ A5.o).mono ?_);rintro e w' ⟨rfl,⟨nd,rfl⟩⟩;refine ⟨_,rfl,?_⟩))
 go_ret;exact ⟨sd_,dn_⟩
def aIz.f (k:Nat) (a0 a1:Int) (a2:Int):Option (Int):=if a2=285/\inF 8 a0=true/\inF 8 a1=true then some (gm 7 285 a0.toNat a1.toNat:Int) else if a2=69643/\inF 16 a0=true/\inF 16 a1=true then some (gm 15 69643 a0.toNat a1.toNat:Int) else byz.f k a0 a1 a2
theorem aIz.mono: ∀a0 a1 a2 k,LeO (aIz.f k a0 a1 a2) (aIz.f (k+1) a0 a1 a2):=by
 intro a0 a1 a2 k;unfold aIz.f;exact LeO.ite (LeO.refl _) (LeO.ite (LeO.refl _) (byz.mono _ _ _ _))
theorem aIz.slow (k:Nat) (a0 a1 a2 r:Int) (h:aIz.f k a0 a1 a2=some r): ∃K,byz.f K a0 a1 a2=some r:=by
 unfold aIz.f at h;by_cases h1:a2=285/\inF 8 a0=true/\inF 8 a1=true
 ·rw [Ya h1] at h;obtain ⟨rfl,h2,h3⟩:=h1;obtain rfl:=Zn h;unfold inF at h2 h3;simp only [Bool.and_eq_true,decide_eq_true_eq,show fsize 8=256 from rfl] at h2 h3;refine ⟨100,?_⟩;have:=rmm8 100 a0.toNat a1.toNat (Zv _) (by omega) (by omega);rw [show ((a0.toNat:Nat):Int)=a0 by omega,show ((a1.toNat:Nat):Int)=a1 by omega] at this;exact this
 ·rw [Yb h1] at h;by_cases h1:a2=69643/\inF 16 a0=true/\inF 16 a1=true
  ·rw [Ya h1] at h;obtain ⟨rfl,h2,h3⟩:=h1;obtain rfl:=Zn h;unfold inF at h2 h3;simp only [Bool.and_eq_true,decide_eq_true_eq,show fsize 16=65536 from rfl] at h2 h3;refine ⟨100,?_⟩;have:=rmm16 100 a0.toNat a1.toNat (Zv _) (by omega) (by omega);rw [show ((a0.toNat:Nat):Int)=a0 by omega,show ((a1.toNat:Nat):Int)=a1 by omega] at this;exact this
  ·rw [Yb h1] at h;exact ⟨k,h⟩
theorem aIz.calls (k:Nat) (a0 a1 a2 r:Int) (w:World) (h:aIz.f k a0 a1 a2=some r):
 Calls prog 157 #[.int .u32 a0, .int .u32 a1, .int .u32 a2] w fun e w'=>e= .returned (.int .u32 r)/\Drawn0 w w':=by
 obtain ⟨K,hK⟩:=aIz.slow k a0 a1 a2 r h;exact byz.calls K a0 a1 a2 r w hK
end Go.Proofs.Xc
end
