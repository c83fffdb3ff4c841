-- Joined texts of this work (wip/tools/bundle.py).
import Derived.RegionTactic
import Derived.Test.YtpdakdcmahlghaaGreatBReconWhich5
set_option maxHeartbeats 8000000
set_option maxRecDepth 100000
set_option linter.unusedVariables false
set_option linter.unusedSimpArgs false
section
namespace Go.Proofs.Xc
open Go.RowKit Go.Proofs.Pw Go.Proofs.Pl Go.Proofs.Pm Tryz
attribute [local go_sem] a7z a8z bgz bhz aVz aWz a9z baz
def aRz.l0:Nat->Int->Int->Int->Int->Option (Int)
 |0,_,_,_,_=>none
 |k+1,x0,x1,x2,x7=>if x1>0 then (if (Int.tmod x1 2)=1 then ((aIz.f k x7 x0 x2).bind fun t163=>((aIz.f k x0 x0 x2).bind fun t164=>(aRz.l0 k t164 (IntKind.u64.wrap (Int.tdiv x1 2)) x2 t163))) else ((aIz.f k x0 x0 x2).bind fun t165=>(aRz.l0 k t165 (IntKind.u64.wrap (Int.tdiv x1 2)) x2 x7))) else (some x7)
def aRz.f (k:Nat) (a0 a1:Int) (a2:Int):Option (Int):=(azz.f k 1 a2).bind fun t162=>(aRz.l0 k a0 a1 a2 t162)
theorem aRz.a6z: ∀k,(∀y0 y1 y2 y3,LeO (aRz.l0 k y0 y1 y2 y3) (aRz.l0 (k+1) y0 y1 y2 y3))
 |0=>fun _ _ _ _ r h=>by simp [aRz.l0] at h
 |k+1=>by
  have a0:=aRz.a6z k
  ·intro y0 y1 y2 y3;unfold aRz.l0
   repeat' with_reducible first|apply a0|apply azz.mono|apply aIz.mono|apply Yg|apply Yh|apply Yi|refine Yj ?_ fun _=>?_
theorem aRz.mono: ∀a0 a1 a2 k,LeO (aRz.f k a0 a1 a2) (aRz.f (k+1) a0 a1 a2):=by
 intro a0 a1 a2 k;have b0:=aRz.a6z k;unfold aRz.f
 repeat' with_reducible first|apply b0|apply azz.mono|apply aIz.mono|apply Yg|apply Yh|apply Yi|refine Yj ?_ fun _=>?_
theorem aRz.calls (k:Nat) (a0 a1 a2 r:Int) (w:World) (h:aRz.f k a0 a1 a2=some r):
  Calls prog 188 #[.int .u32 a0, .int .u64 a1, .int .u32 a2] w fun e w'=>e= .returned (.int .u32 r)/\Drawn0 w w':=by
 have H:=h;clear h;unfold aRz.f at H;obtain ⟨g0,A4,H⟩:=ob_ H
 (try dsimp only at H)
 have H':=Za H;clear H;go_enter func188,ntmps188
 go_wp2_with (first|((with_reducible refine aaz (f:=180) rfl ?_);refine gl_ (some 9) func180 #[.int .u64 1, .int .u32 a2] ?_;(with_reducible refine (azz.calls k 1 a2 g0 _ A4.o).mono ?_);rintro e w' ⟨rfl,⟨nd,rfl⟩⟩;refine ⟨_,rfl,?_⟩))
 go_loopg [0,1,7] k (fun kq v0 v1 v7 w'=> ∃(c0:Int) (b0:Int) (d0:Int),v0= .int .u32 c0/\v1= .int .u64 b0/\v7= .int .u32 d0/\Aside0 (aRz.l0 kq c0 b0 a2 d0=some r)/\Aside0 (kq<=k)/\Drawn0 w w')
 case atStart=>exact ⟨(a0),(a1),(g0),sd_,sd_,sd_,H',⟨Zv _⟩,dn_⟩
 clear H';obtain ⟨c0,b0,d0,rfl,rfl,rfl,HA,i0,⟨m1,rfl⟩⟩:=hrel;rcases gk with _|k1
 ·exact Yf HA.o (by simp [aRz.l0])
 have H:=HA.o;clear HA;simp only [aRz.l0] at H;by_cases c5:b0>0
 rotate_left
 ·rw [Yb c5] at H;have n0:decide (0<b0)=false:=Ze c5;clear c5;obtain rfl:=Zn H;go_wp2;go_ret;exact ⟨sd_,dn_⟩
 rw [Ya c5] at H;have n0:decide (0<b0)=true:=Zd c5;clear c5;by_cases c6:(Int.tmod b0 2)=1
 rotate_left
 ·rw [Yb c6] at H;have k0:((Int.tmod b0 2)==1)=false:=Zq c6;have j0:((Int.tmod b0 2) !=1)=true:=Yd c6;obtain ⟨e0,A9,H⟩:=ob_ H
  (try dsimp only at H)
  have H':=Za H;clear H
  go_wp2_with (first|((with_reducible refine aaz (f:=157) rfl ?_);refine gl_ (some 22) func157 #[.int .u32 c0, .int .u32 c0, .int .u32 a2] ?_;(with_reducible refine (aIz.calls k1 c0 c0 a2 e0 _ A9.o).mono ?_);rintro e w' ⟨rfl,⟨nd,rfl⟩⟩;refine ⟨_,rfl,?_⟩))
  go_roundg k1
  case measure=>have:=i0.o;omega
  case rel=>exact ⟨(e0),(IntKind.u64.wrap (Int.tdiv b0 2)),(d0),sd_,sd_,sd_,H',⟨by have:=i0.o;omega⟩,dn_⟩
 rw [Ya c6] at H;have k0:((Int.tmod b0 2)==1)=true:=Ye c6;have j0:((Int.tmod b0 2) !=1)=false:=Yc c6;clear c6;obtain ⟨h0,A7,H⟩:=ob_ H
 (try dsimp only at H)
 obtain ⟨f0,A8,H⟩:=ob_ H
 (try dsimp only at H)
 have H':=Za H;clear H
 go_wp2_with (first|((with_reducible refine aaz (f:=157) rfl ?_);refine gl_ (some 18) func157 #[.int .u32 d0, .int .u32 c0, .int .u32 a2] ?_;(with_reducible refine (aIz.calls k1 d0 c0 a2 h0 _ A7.o).mono ?_);rintro e w' ⟨rfl,⟨nd,rfl⟩⟩;refine ⟨_,rfl,?_⟩)|((with_reducible refine aaz (f:=157) rfl ?_);refine gl_ (some 22) func157 #[.int .u32 c0, .int .u32 c0, .int .u32 a2] ?_;(with_reducible refine (aIz.calls k1 c0 c0 a2 f0 _ A8.o).mono ?_);rintro e w' ⟨rfl,⟨nd,rfl⟩⟩;refine ⟨_,rfl,?_⟩))
 go_roundg k1
 case measure=>have:=i0.o;omega
 case rel=>exact ⟨(f0),(IntKind.u64.wrap (Int.tdiv b0 2)),(h0),sd_,sd_,sd_,H',⟨by have:=i0.o;omega⟩,dn_⟩
def aOz.f (k:Nat) (a0 a1 a2:Int) (a3:Int):Option (Int):=(afz.f k a0 a2).bind fun t166=>(if t166=true then (if a3<0 then (some 0) else ((aRz.f k ((a2) % 4294967296) (IntKind.u64.wrap (a3)) a1).bind fun t167=>(some (wrap64 (t167))))) else (some 0))
theorem aOz.mono: ∀a0 a1 a2 a3 k,LeO (aOz.f k a0 a1 a2 a3) (aOz.f (k+1) a0 a1 a2 a3):=by
 intro a0 a1 a2 a3 k;unfold aOz.f
 repeat' with_reducible first|apply aRz.mono|apply afz.mono|apply Yg|apply Yh|apply Yi|refine Yj ?_ fun _=>?_
theorem aOz.calls (k:Nat) (a0 a1 a2 a3 r:Int) (w:World) (h:aOz.f k a0 a1 a2 a3=some r):
  Calls prog 168 #[.int .i64 a0, .int .u32 a1, .int .i64 a2, .int .i64 a3] w fun e w'=>e= .returned (.int .i64 r)/\Drawn0 w w':=by
 have H:=h;clear h;unfold aOz.f at H;obtain ⟨b0,A5,H⟩:=ob_ H
 (try dsimp only at H)
 by_cases c6:b0=true
 rotate_left
 ·replace c6:=Zr c6;subst c6;rw [Yb (show¬(false=true) by decide)] at H;obtain rfl:=Zn H;go_enter func168,ntmps168
  go_wp2_with (first|((with_reducible refine aaz (f:=106) rfl ?_);refine gl_ (some 11) func106 #[.int .i64 a0, .int .i64 a2] ?_;(with_reducible refine (afz.calls k a0 a2 false _ A5.o).mono ?_);rintro e w' ⟨rfl,⟨nd,rfl⟩⟩;refine ⟨_,rfl,?_⟩))
  go_ret;exact ⟨sd_,dn_⟩
 subst c6;rw [Ya rfl] at H;by_cases c7:a3<0
 ·rw [Ya c7] at H;have c0:=Zd c7;clear c7;obtain rfl:=Zn H;go_enter func168,ntmps168
  go_wp2_with (first|((with_reducible refine aaz (f:=106) rfl ?_);refine gl_ (some 11) func106 #[.int .i64 a0, .int .i64 a2] ?_;(with_reducible refine (afz.calls k a0 a2 true _ A5.o).mono ?_);rintro e w' ⟨rfl,⟨nd,rfl⟩⟩;refine ⟨_,rfl,?_⟩))
  go_ret;exact ⟨sd_,dn_⟩
 ·rw [Yb c7] at H;have c0:=Ze c7;clear c7;obtain ⟨d0,A8,H⟩:=ob_ H
  (try dsimp only at H)
  obtain rfl:=Zn H;go_enter func168,ntmps168
  go_wp2_with (first|((with_reducible refine aaz (f:=106) rfl ?_);refine gl_ (some 11) func106 #[.int .i64 a0, .int .i64 a2] ?_;(with_reducible refine (afz.calls k a0 a2 true _ A5.o).mono ?_);rintro e w' ⟨rfl,⟨nd,rfl⟩⟩;refine ⟨_,rfl,?_⟩)|((with_reducible refine aaz (f:=188) rfl ?_);refine gl_ (some 22) func188 #[.int .u32 ((a2) % 4294967296), .int .u64 (IntKind.u64.wrap (a3)), .int .u32 a1] ?_;(with_reducible refine (aRz.calls k ((a2) % 4294967296) (IntKind.u64.wrap (a3)) a1 d0 _ A8.o).mono ?_);rintro e w' ⟨rfl,⟨nd,rfl⟩⟩;refine ⟨_,rfl,?_⟩))
  go_ret;exact ⟨sd_,dn_⟩
def asz.j0:Nat->Int->Int->Int->Bool->Option (Int×Bool)
 |0,_,_,_,_=>none
 |k+1,x0,x1,x2,x15=>if x15=true then (some (0,false)) else ((axz.f k x0).bind fun t169=>((aOz.f k x0 x1 x2 (wrap64 (t169 - 2))).bind fun t170=>(some (t170,true))))
def asz.f (k:Nat) (a0 a1:Int) (a2:Int):Option (Int×Bool):=(afz.f k a0 a2).bind fun t168=>(if t168=true then (asz.j0 k a0 a1 a2 (a2==0)) else (asz.j0 k a0 a1 a2 true))
theorem asz.a6z: ∀k,(∀y0 y1 y2 y3,LeO (asz.j0 k y0 y1 y2 y3) (asz.j0 (k+1) y0 y1 y2 y3))
 |0=>fun _ _ _ _ r h=>by simp [asz.j0] at h
 |k+1=>by
  have a0:=asz.a6z k
  ·intro y0 y1 y2 y3;unfold asz.j0
   repeat' with_reducible first|apply a0|apply afz.mono|apply aOz.mono|apply axz.mono|apply Yg|apply Yh|apply Yi|refine Yj ?_ fun _=>?_
theorem asz.mono: ∀a0 a1 a2 k,LeO (asz.f k a0 a1 a2) (asz.f (k+1) a0 a1 a2):=by
 intro a0 a1 a2 k;have b0:=asz.a6z k;unfold asz.f
 repeat' with_reducible first|apply b0|apply afz.mono|apply aOz.mono|apply axz.mono|apply Yg|apply Yh|apply Yi|refine Yj ?_ fun _=>?_
theorem asz.calls (k:Nat) (a0 a1 a2 r1:Int) (r2:Bool) (w:World) (h:asz.f k a0 a1 a2=some (r1,r2)):
  Calls prog 146 #[.int .i64 a0, .int .u32 a1, .int .i64 a2] w fun e w'=>e= .returned (.tuple #[.int .i64 r1, .bool r2])/\Drawn0 w w':=by
 have H:=h;clear h;unfold asz.f at H;have f0:=Za H;clear H;go_enter func146,ntmps146
 go_upto_region 1 with (fail)
 go_cut [15] (fun h0 wc=> ∃(kq:Nat) (b0:Bool),h0= .bool b0/\Aside0 (asz.j0 kq a0 a1 a2 b0=some (r1,r2))/\Aside0 (kq<=k)/\Drawn0 w wc)
 case first=>
  have H:=f0.o;clear f0;obtain ⟨d0,A5,H⟩:=ob_ H
  (try dsimp only at H)
  by_cases c6:d0=true
  ·subst c6;rw [Ya rfl] at H;have H':=Za H;clear H
   go_wp2_with (first|((with_reducible refine aaz (f:=106) rfl ?_);refine gl_ (some 10) func106 #[.int .i64 a0, .int .i64 a2] ?_;(with_reducible refine (afz.calls k a0 a2 true _ A5.o).mono ?_);rintro e w' ⟨rfl,⟨nd,rfl⟩⟩;refine ⟨_,rfl,?_⟩))
   go_meet
   case rel=>exact ⟨_,((a2==0)),sd_,H',⟨by first|omega|exact Zv _⟩,dn_⟩
  ·replace c6:=Zr c6;subst c6;rw [Yb (show¬(false=true) by decide)] at H;have H':=Za H;clear H
   go_wp2_with (first|((with_reducible refine aaz (f:=106) rfl ?_);refine gl_ (some 10) func106 #[.int .i64 a0, .int .i64 a2] ?_;(with_reducible refine (afz.calls k a0 a2 false _ A5.o).mono ?_);rintro e w' ⟨rfl,⟨nd,rfl⟩⟩;refine ⟨_,rfl,?_⟩))
   go_meet
   case rel=>exact ⟨_,(true),sd_,H',⟨by first|omega|exact Zv _⟩,dn_⟩
 case rest=>
  clear f0;obtain ⟨kq,b0,rfl,HA,k0,⟨i0,rfl⟩⟩:=hcut;rcases kq with _|g0
  ·exact Yf HA.o (by simp [asz.j0])
  have H:=HA.o;clear HA;simp only [asz.j0] at H;by_cases c7:b0=true
  ·subst c7;rw [Ya rfl] at H;simp only [Zx,Zy] at H;obtain ⟨rfl,rfl⟩:=H;go_wp2;go_ret2;exact ⟨sd_,dn_⟩
  ·replace c7:=Zr c7;subst c7;rw [Yb (show¬(false=true) by decide)] at H;obtain ⟨c0,A8,H⟩:=ob_ H
   (try dsimp only at H)
   obtain ⟨e0,A9,H⟩:=ob_ H
   (try dsimp only at H)
   simp only [Zx,Zy] at H;obtain ⟨rfl,rfl⟩:=H
   go_wp2_with (first|((with_reducible refine aaz (f:=156) rfl ?_);refine gl_ (some 20) func156 #[.int .i64 a0] ?_;(with_reducible refine (axz.calls g0 a0 c0 _ A8.o).mono ?_);rintro e w' ⟨rfl,⟨nd,rfl⟩⟩;refine ⟨_,rfl,?_⟩)|((with_reducible refine aaz (f:=168) rfl ?_);refine gl_ (some 22) func168 #[.int .i64 a0, .int .u32 a1, .int .i64 a2, .int .i64 (wrap64 (c0 - 2))] ?_;(with_reducible refine (aOz.calls g0 a0 a1 a2 (wrap64 (c0 - 2)) e0 _ A9.o).mono ?_);rintro e w' ⟨rfl,⟨nd,rfl⟩⟩;refine ⟨_,rfl,?_⟩))
   go_ret2;exact ⟨sd_,dn_⟩
def aBz.f (k:Nat) (a0 a1 a2:Int) (a3:Int):Option (Int):=(afz.f k a0 a2).bind fun t171=>(if t171=true then ((afz.f k a0 a3).bind fun t172=>(if t172=true then ((aIz.f k ((a2) % 4294967296) ((a3) % 4294967296) a1).bind fun t173=>(some (wrap64 (t173)))) else (some 0))) else (some 0))
theorem aBz.mono: ∀a0 a1 a2 a3 k,LeO (aBz.f k a0 a1 a2 a3) (aBz.f (k+1) a0 a1 a2 a3):=by
 intro a0 a1 a2 a3 k;unfold aBz.f
 repeat' with_reducible first|apply aIz.mono|apply afz.mono|apply Yg|apply Yh|apply Yi|refine Yj ?_ fun _=>?_
theorem aBz.calls (k:Nat) (a0 a1 a2 a3 r:Int) (w:World) (h:aBz.f k a0 a1 a2 a3=some r):
  Calls prog 107 #[.int .i64 a0, .int .u32 a1, .int .i64 a2, .int .i64 a3] w fun e w'=>e= .returned (.int .i64 r)/\Drawn0 w w':=by
 have H:=h;clear h;unfold aBz.f at H;obtain ⟨d0,A5,H⟩:=ob_ H
 (try dsimp only at H)
 by_cases c6:d0=true
 rotate_left
 ·replace c6:=Zr c6;subst c6;rw [Yb (show¬(false=true) by decide)] at H;obtain rfl:=Zn H;go_enter func107,ntmps107
  go_wp2_with (first|((with_reducible refine aaz (f:=106) rfl ?_);refine gl_ (some 11) func106 #[.int .i64 a0, .int .i64 a2] ?_;(with_reducible refine (afz.calls k a0 a2 false _ A5.o).mono ?_);rintro e w' ⟨rfl,⟨nd,rfl⟩⟩;refine ⟨_,rfl,?_⟩))
  go_ret;exact ⟨sd_,dn_⟩
 subst c6;rw [Ya rfl] at H;obtain ⟨c0,A7,H⟩:=ob_ H
 (try dsimp only at H)
 by_cases c8:c0=true
 ·subst c8;rw [Ya rfl] at H;obtain ⟨b0,A9,H⟩:=ob_ H
  (try dsimp only at H)
  obtain rfl:=Zn H;go_enter func107,ntmps107
  go_wp2_with (first|((with_reducible refine aaz (f:=106) rfl ?_);refine gl_ (some 11) func106 #[.int .i64 a0, .int .i64 a2] ?_;(with_reducible refine (afz.calls k a0 a2 true _ A5.o).mono ?_);rintro e w' ⟨rfl,⟨nd,rfl⟩⟩;refine ⟨_,rfl,?_⟩)|(go_at_call 106;(with_reducible refine (afz.calls k a0 a3 true _ A7.o).mono ?_);rintro e w' ⟨rfl,⟨nd,rfl⟩⟩)|((with_reducible refine aaz (f:=157) rfl ?_);refine gl_ (some 24) func157 #[.int .u32 ((a2) % 4294967296), .int .u32 ((a3) % 4294967296), .int .u32 a1] ?_;(with_reducible refine (aIz.calls k ((a2) % 4294967296) ((a3) % 4294967296) a1 b0 _ A9.o).mono ?_);rintro e w' ⟨rfl,⟨nd,rfl⟩⟩;refine ⟨_,rfl,?_⟩))
  go_ret;exact ⟨sd_,dn_⟩
 ·replace c8:=Zr c8;subst c8;rw [Yb (show¬(false=true) by decide)] at H;obtain rfl:=Zn H;go_enter func107,ntmps107
  go_wp2_with (first|((with_reducible refine aaz (f:=106) rfl ?_);refine gl_ (some 11) func106 #[.int .i64 a0, .int .i64 a2] ?_;(with_reducible refine (afz.calls k a0 a2 true _ A5.o).mono ?_);rintro e w' ⟨rfl,⟨nd,rfl⟩⟩;refine ⟨_,rfl,?_⟩)|(go_at_call 106;(with_reducible refine (afz.calls k a0 a3 false _ A7.o).mono ?_);rintro e w' ⟨rfl,⟨nd,rfl⟩⟩))
  go_ret;exact ⟨sd_,dn_⟩
def aJz.l0:Nat->Int->Int->List Int->Int->List Int->Int->Option (List Int)
 |0,_,_,_,_,_,_=>none
 |k+1,x0,x1,x2,x3,x9,x10=>if x10<(x2.length:Int) then (if 0<=x10 then ((aBz.f k x0 x1 (rd x2 x10) x3).bind fun t175=>(if x9.length<17592186044416 then (aJz.l0 k x0 x1 x2 x3 (x9++ [t175]) (wrap64 (x10+1))) else (none))) else (none)) else (some x9)
def aJz.f (k:Nat) (a0 a1:Int) (l2:List Int) (a3:Int):Option (List Int):=aJz.l0 k a0 a1 l2 a3 ([] :List Int) 0
theorem aJz.a6z: ∀k,(∀y0 y1 y2 y3 y4 y5,LeO (aJz.l0 k y0 y1 y2 y3 y4 y5) (aJz.l0 (k+1) y0 y1 y2 y3 y4 y5))
 |0=>fun _ _ _ _ _ _ r h=>by simp [aJz.l0] at h
 |k+1=>by
  have a0:=aJz.a6z k
  ·intro y0 y1 y2 y3 y4 y5;unfold aJz.l0
   repeat' with_reducible first|apply a0|apply aBz.mono|apply Yg|apply Yh|apply Yi|refine Yj ?_ fun _=>?_
theorem aJz.mono: ∀a0 a1 a2 a3 k,LeO (aJz.f k a0 a1 a2 a3) (aJz.f (k+1) a0 a1 a2 a3):=by
 intro a0 a1 a2 a3 k;have b0:=aJz.a6z k;unfold aJz.f
 repeat' with_reducible first|apply b0|apply aBz.mono|apply Yg|apply Yh|apply Yi|refine Yj ?_ fun _=>?_
theorem aJz.calls (k:Nat) (a0 a1:Int) (A2:Option Addr) (c2:Nat) (l2:List Int) (a3:Int) (r:List Int) (w:World) (p0:Kd.C (Kd.int .i64) w A2 l2.length l2) (r0:l2.length<=c2) (h:aJz.f k a0 a1 l2 a3=some r):
  Calls prog 147 #[.int .i64 a0, .int .u32 a1, .slice A2 l2.length c2, .int .i64 a3] w fun e w'=> ∃q0:Value,e= .returned (q0)/\Kd.R (Kd.int .i64) 3 w' w.heap.size (fun _=>True) q0 r/\Below w.heap.size w w':=by
 have z0:=Za p0;have C0:=Za r0;clear p0 r0;have HB:=Za (Zw w.heap.size w);have H:=h;clear h;unfold aJz.f at H;have H':=Za H;clear H;go_enter func147,ntmps147;go_wp2
 go_loopg [9,10] k (fun kq v9 B0 w'=> ∃(d0:List Int) (b0:Int),B0= .int .i64 b0/\Aside0 (aJz.l0 kq a0 a1 l2 a3 d0 b0=some r)/\Aside0 (kq<=k)/\Aside0 (Kd.R (Kd.int .i64) 3 w' w.heap.size (fun _=>True) v9 d0)/\Aside0 (Below w.heap.size w w'))
 case atStart=>exact ⟨(([] :List Int)),(0),sd_,H',⟨Zv _⟩,⟨nl_⟩,⟨bl_⟩⟩
 clear H';obtain ⟨d0,b0,rfl,HA,t0,f0,HB⟩:=hrel;rcases gk with _|k1
 ·exact Yf HA.o (by simp [aJz.l0])
 have H:=HA.o;clear HA;simp only [aJz.l0] at H;by_cases c5:b0<(l2.length:Int)
 rotate_left
 ·rw [Yb c5] at H;have o0:=Ze c5;clear c5;obtain rfl:=Zn H;go_wp2;go_ret;exact ⟨_,er_,xd_ f0.o,bl_⟩
 rw [Ya c5] at H;have o0:=Zd c5;clear c5;obtain ⟨A0,H⟩:=ih_ H;obtain ⟨e0,A7,H⟩:=ob_ H
 (try dsimp only at H)
 obtain ⟨j0,H⟩:=ij_ H;obtain ⟨n0,c0⟩: ∃y_:List Int,y_=(d0++ [e0]):=⟨_,rfl⟩
 first|rw [Zl, <-c0] at H|rw [<-c0] at H
 (try dsimp only at H)
 have g0:=Za c0;clear c0;have H':=Za H;clear H;obtain ⟨_,k0,i0,v0,y0⟩:=iy_ z0.o HB b0 as_ as_;cases k0
 go_wp2_with (first|((with_reducible refine aaz (f:=107) rfl ?_);refine gl_ (some 25) func107 #[.int .i64 a0, .int .u32 a1, .int .i64 (rd l2 b0), .int .i64 a3] ?_;(with_reducible refine (aBz.calls k1 a0 a1 (rd l2 b0) a3 e0 _ A7.o).mono ?_);rintro e w' ⟨rfl,⟨nd,rfl⟩⟩;refine ⟨_,rfl,?_⟩)|((with_reducible refine amz (b:= .append) (xs:= #[.tmp 17, .tmp 26]) rfl ?_);at_builtin;refine Kd.brz (Kd.int .i64) (w0:=w) w.heap.size rfl (.tmp 17) (.tmp 26) 57 3 (.int .i64 0) 8 rfl underlying57 info3 rfl (by decide) (by omega) u9 d0 e0 [.int .i64 e0] (fun _=>True) (fun _=>False) rfl rfl rfl (fun _ hk=>hk.elim) (fun _ _=>trivial) (xd_ f0.o) bl_ (adz bl_) (by have:=j0.o;omega) ?_;intro u0 w9 ho hb hg hat;rw [<-g0.o] at ho;have n_:=Zb (Za (hb)) (Za (ho));clear HB f0;obtain ⟨HB,h0⟩:=n_;clear ho hb hg hat))
 go_roundg k1
 case measure=>have:=t0.o;omega
 case rel=>exact ⟨(n0),(wrap64 (b0+1)),sd_,H',⟨by have:=t0.o;omega⟩,⟨xd_ h0.o⟩,⟨bl_⟩⟩
def aAz.l0:Nat->List Int->List Int->List Int->Int->Option (List Int)
 |0,_,_,_,_=>none
 |k+1,x0,x1,x5,x6=>if x6<(x0.length:Int) then (if 0<=x6 then (if x6<(x1.length:Int) then (if x5.length<17592186044416 then (aAz.l0 k x0 x1 (x5++ [Go.bits .xor .i64 (rd x0 x6) (rd x1 x6)]) (wrap64 (x6+1))) else (none)) else (none)) else (none)) else (some x5)
def aAz.f (k:Nat) (l0:List Int) (l1:List Int):Option (List Int):=aAz.l0 k l0 l1 ([] :List Int) 0
theorem aAz.a6z: ∀k,(∀y0 y1 y2 y3,LeO (aAz.l0 k y0 y1 y2 y3) (aAz.l0 (k+1) y0 y1 y2 y3))
 |0=>fun _ _ _ _ r h=>by simp [aAz.l0] at h
 |k+1=>by
  have a0:=aAz.a6z k
  ·intro y0 y1 y2 y3;unfold aAz.l0
   repeat' with_reducible first|apply a0|apply Yg|apply Yh|apply Yi|refine Yj ?_ fun _=>?_
theorem aAz.mono: ∀a0 a1 k,LeO (aAz.f k a0 a1) (aAz.f (k+1) a0 a1):=by
 intro a0 a1 k;have b0:=aAz.a6z k;unfold aAz.f
 repeat' with_reducible first|apply b0|apply Yg|apply Yh|apply Yi|refine Yj ?_ fun _=>?_
def aAz.T5:Bool×List (List Nat×List Nat):=(true, [([], []),([], []),([], []),([1,2], [1,2]),([3], [3]),([], []),([], []),([5,6], [5,6]),([7], [7]),([4,8], [4,8]),([9], [9]),([0,10], [0,10]),([11,11,0,1,2,3,4,5,6,7,8,9,10,11], [0,11])])
def aAz.B5:List Nat:= [0,0,0,6,14,0,0,96,224,510,1022,2047,4095]
theorem aAz.tab5:rtab .any (opsOf Tryz.f148 5)=aAz.T5:=by kernel_rfl
theorem aAz.bits5:waitsOk aAz.T5.2 aAz.B5=true:=by kernel_rfl
theorem aAz.calls (k:Nat) (A0:Option Addr) (c0:Nat) (l0:List Int) (A1:Option Addr) (c1:Nat) (l1 r:List Int) (w:World) (H0:Kd.C (Kd.int .i64) w A0 l0.length l0) (F0:l0.length<=c0) (J0:Kd.C (Kd.int .i64) w A1 l1.length l1) (G0:l1.length<=c1) (h:aAz.f k l0 l1=some r):
  Calls prog 148 #[.slice A0 l0.length c0, .slice A1 l1.length c1] w fun e w'=> ∃D0:Value,e= .returned (D0)/\Kd.R (Kd.int .i64) 3 w' w.heap.size (fun _=>True) D0 r/\Below w.heap.size w w':=by
 have M0:=Za H0;have P0:=Za F0;clear H0 F0;have N0:=Za J0;have Q0:=Za G0;clear J0 G0;have HB:=Za (Zw w.heap.size w);have H:=h;clear h;unfold aAz.f at H;have H':=Za H;clear H;go_enter func148,ntmps148;go_wp2
 go_loopg [5,6] k (fun kq v5 v6 w'=> ∃(j0:List Int) (d0:Int),v6= .int .i64 d0/\Aside0 (aAz.l0 kq l0 l1 j0 d0=some r)/\Aside0 (kq<=k)/\Aside0 (Kd.R (Kd.int .i64) 3 w' w.heap.size (fun _=>True) v5 j0)/\Aside0 (Below w.heap.size w w'))
 case atStart=>exact ⟨(([] :List Int)),(0),sd_,H',⟨Zv _⟩,⟨nl_⟩,⟨bl_⟩⟩
 clear H';obtain ⟨j0,d0,rfl,HA,I0,g0,HB⟩:=hrel;rcases gk with _|k1
 ·exact Yf HA.o (by simp [aAz.l0])
 have H:=HA.o;clear HA;simp only [aAz.l0] at H;by_cases c3:d0<(l0.length:Int)
 rotate_left
 ·rw [Yb c3] at H;have y0:=Ze c3;clear c3;obtain rfl:=Zn H;go_wp2;go_ret;exact ⟨_,er_,xd_ g0.o,bl_⟩
 rw [Ya c3] at H;have y0:=Zd c3;clear c3;obtain ⟨L0,H⟩:=ih_ H;obtain ⟨O0,H⟩:=ih_ H;obtain ⟨B0,H⟩:=ij_ H;obtain ⟨C0,h0⟩: ∃y_:List Int,y_=(j0++ [Go.bits .xor .i64 (rd l0 d0) (rd l1 d0)]):=⟨_,rfl⟩
 first|rw [Zl, <-h0] at H|rw [<-h0] at H
 (try dsimp only at H)
 have t0:=Za h0;clear h0;have H':=Za H;clear H
 try go_wp2
 have n_:=Zb (Za (Kd.cBz g0.o)) (Za (b1z HB.o));clear g0 HB;obtain ⟨g0,HB⟩:=n_;have k0:0<=(d0:Int):=Zc as_;have o0:d0<(l0.length:Int):=Zc as_;obtain ⟨u0,z0,f0⟩:=Kd.ehz M0.o d0 k0 o0;have b0:=f0;cases z0
 replace f0:=(HB.o.cell (Zj w _ f0)).trans f0;replace k0:=Zz k0;replace o0:=Zz o0;have n0:0<=(d0:Int):=Zc as_;have p0:d0<(l1.length:Int):=Zc as_;obtain ⟨r0,v0,e0⟩:=Kd.ehz N0.o d0 n0 p0;have a0:=e0;cases v0
 replace e0:=(HB.o.cell (Zj w _ e0)).trans e0;replace n0:=Zz n0;replace p0:=Zz p0;refine ccz (n:=13) (S:=fun w'=>w'.cell? (u0.add (d0).toNat)=some (.int .i64 (rd l0 d0))/\w'.cell? (r0.add (d0).toNat)=some (.int .i64 (rd l1 d0))) (ds:= []) (bA 13 0) kr_ rfl rfl ⟨((HB.o.cell (Zj w _ b0)).trans b0),((HB.o.cell (Zj w _ a0)).trans a0)⟩ (fun hHeld=> ?_);refine c9z aAz.tab5 aAz.bits5 (fun i0 E0=> ?_);generalize wr.drew=w7 at g0 HB f0 e0 hHeld|-;refine pv_ 0 13 1 i0 ?_;refine pv_ 1 14 3 i0 ?_;refine pv_ 2 15 7 i0 ?_;refine pv_ 3 16 15 i0 ?_;refine pv_ 5 18 47 i0 ?_;refine pv_ 6 19 111 i0 ?_;refine pv_ 7 20 239 i0 ?_;refine tw_ 4 17 255 i0 E0 hHeld ?_;refine tw_ 8 21 511 i0 E0 hHeld ?_;refine pv_ 9 22 1023 i0 ?_;refine one_ (i:=10) (N:=some 23) (bA 13 2047) rfl rfl (dgz i0.o kr_) (by decide) (fun K hK=> ?_);refine chz (w1:= ?_) (v:= ?_) (by rfl) rfl ?_ ?_
 rotate_left 2
 ·go_simp;constructor
  ·rfl
  ·rfl
 refine hK.out _ _ ⟨(World.cell?_alloc_lt _ _ _ (Zj _ _ (((HB.o.cell (Zj w _ b0)).trans b0)))).trans (((HB.o.cell (Zj w _ b0)).trans b0)),(World.cell?_alloc_lt _ _ _ (Zj _ _ (((HB.o.cell (Zj w _ a0)).trans a0)))).trans (((HB.o.cell (Zj w _ a0)).trans a0))⟩ (fun hHeld=> ?_);clear hK K;refine norm_ (a':= ?_) ?_ ?_;rotate_left
 ·show Act.put _ (some 23) _=_;simp only [Act.put,Zg,Zh,Zi,i64_w,i32_w];rfl
 refine one_ (i:=11) (N:=some 24) (bA 13 4095) rfl rfl (dgz i0.o kr_) (by decide) (fun K hK=> ?_);refine Kd.dIz (Kd.int .i64) (w0:=w) w.heap.size (by rfl) (.tmp 13) (.tmp 23) 57 3 (.int .i64 0) 8 rfl underlying57 info3 rfl (by decide) (by omega) u5 j0 (Go.bits .xor .i64 (rd l0 d0) (rd l1 d0)) [.int .i64 (Go.bits .xor .i64 (rd l0 d0) (rd l1 d0))] (fun _=>True) (fun _=>False) rfl rfl ?aP (fun _ hk=>hk.elim) ?aF ?aO ?aB ?aS ?aL ?_
 (case aP=>exact rfl)
 (case aB=>exact bl_)
 (case aF=>exact (fun _ _=>trivial))
 (case aO=>exact (xd_ g0.o))
 (case aS=>exact (adz bl_))
 (case aL=>have:=B0.o;omega)
 intro K0 w8 ho hb hg hat;rw [<-t0.o] at ho;have n_:=Zb (Za (hb)) (Za (ho));clear HB g0;obtain ⟨HB,q0⟩:=n_;clear ho hb hg hat;refine hK.out _ _ ⟨((HB.o.cell (Zj w _ b0)).trans b0),((HB.o.cell (Zj w _ a0)).trans a0)⟩ (fun hHeld=> ?_);clear hK K;refine norm_ (a':= ?_) ?_ ?_;rotate_left
 ·show Act.put _ (some 24) _=_;simp only [Act.put,Zg,Zh,Zi,i64_w,i32_w];rfl
 refine pv_ 12 5 8191 i0 ?_;refine done_ (dWz i0.o kr_) ?_
 try go_wp2
 go_roundg k1
 case measure=>have:=I0.o;omega
 case rel=>exact ⟨(C0),(wrap64 (d0+1)),sd_,H',⟨by have:=I0.o;omega⟩,⟨xd_ q0.o⟩,⟨bl_⟩⟩
mutual
def biz.l0:Nat->Int->List Int->Int->Option (List Int)
 |0,_,_,_=>none
 |k+1,x0,x3,x4=>if x0>1 then (if x4=0 then (none) else (if (Int.tmod x0 x4)=0 then (if x3.length<17592186044416 then (biz.j1 k x0 (x3++ [x4]) x4) else (none)) else (biz.j1 k x0 x3 x4))) else (some x3)
def biz.j1:Nat->Int->List Int->Int->Option (List Int)
 |0,_,_,_=>none
 |k+1,x0,x3,x4=>biz.l1 k x0 x3 x4
def biz.l1:Nat->Int->List Int->Int->Option (List Int)
 |0,_,_,_=>none
 |k+1,x0,x3,x4=>if x4=0 then (none) else (if (Int.tmod x0 x4)=0 then (biz.l1 k (wrap64 (Int.tdiv x0 x4)) x3 x4) else (biz.l0 k x0 x3 (wrap64 (x4+1))))
end
def biz.f (k:Nat) (a0:Int):Option (List Int):=biz.l0 k a0 ([] :List Int) 2
theorem biz.calls (k:Nat) (a0:Int) (r:List Int) (w:World) (h:biz.f k a0=some r):
  Calls prog 165 #[.int .i64 a0] w fun e w'=> ∃D0:Value,e= .returned (D0)/\Kd.R (Kd.int .i64) 3 w' w.heap.size (fun _=>True) D0 r/\Below w.heap.size w w':=by
 have HB:=Za (Zw w.heap.size w);have H:=h;clear h;unfold biz.f at H;have H':=Za H;clear H;go_enter func165,ntmps165;go_wp2
 go_loopg [0,3,4] k (fun kq v0 v3 v4 w'=> ∃(c0:Int) (h0:List Int) (b0:Int),v0= .int .i64 c0/\v4= .int .i64 b0/\Aside0 (biz.l0 kq c0 h0 b0=some r)/\Aside0 (kq<=k)/\Aside0 (Kd.R (Kd.int .i64) 3 w' w.heap.size (fun _=>True) v3 h0)/\Aside0 (Below w.heap.size w w'))
 case atStart=>exact ⟨(a0),(([] :List Int)),(2),sd_,sd_,H',⟨Zv _⟩,⟨nl_⟩,⟨bl_⟩⟩
 clear H';obtain ⟨c0,h0,b0,rfl,rfl,HA,i0,e0,HB⟩:=hrel;rcases gk with _|k1
 ·exact Yf HA.o (by simp [biz.l0])
 have H:=HA.o;clear HA;simp only [biz.l0] at H;by_cases c2:c0>1
 rotate_left
 ·rw [Yb c2] at H;have j0:decide (1<c0)=false:=Ze c2;clear c2;obtain rfl:=Zn H;go_wp2;go_ret;exact ⟨_,er_,xd_ e0.o,bl_⟩
 rw [Ya c2] at H;have j0:decide (1<c0)=true:=Zd c2;clear c2;by_cases c3:b0=0
 ·rw [Ya c3] at H;exact Yf H (by simp)
 ·rw [Yb c3] at H;have r0:(b0==0)=false:=Zq c3;have u0:(b0 !=0)=true:=Yd c3;have A0:=Za H;clear H
  go_upto_if 12 with (fail)
  go_cut [3] (fun v3 wc=> ∃(kq:Nat) (g0:List Int),Aside0 (biz.j1 kq c0 g0 b0=some r)/\Aside0 (kq<=k1)/\Aside0 (Kd.R (Kd.int .i64) 3 wc w.heap.size (fun _=>True) v3 g0)/\Aside0 (Below w.heap.size w wc))
  case first=>
   have H:=A0.o;clear A0;by_cases c5:(Int.tmod c0 b0)=0
   rotate_left
   ·rw [Yb c5] at H;have C0:((Int.tmod c0 b0)==0)=false:=Zq c5;have q0:((Int.tmod c0 b0) !=0)=true:=Yd c5;have H':=Za H;clear H;go_wp2
    go_meet
    case rel=>exact ⟨_,(h0),H',⟨by have:=i0.o;first|omega|exact Zv _⟩,⟨xd_ e0.o⟩,⟨bl_⟩⟩
   rw [Ya c5] at H;have C0:((Int.tmod c0 b0)==0)=true:=Ye c5;have q0:((Int.tmod c0 b0) !=0)=false:=Yc c5;clear c5;obtain ⟨B0,H⟩:=ij_ H;obtain ⟨t0,f0⟩: ∃y_:List Int,y_=(h0++ [b0]):=⟨_,rfl⟩
   first|rw [Zl, <-f0] at H|rw [<-f0] at H
   (try dsimp only at H)
   have n0:=Za f0;clear f0;have H':=Za H;clear H
   go_wp2_with (first|((with_reducible refine amz (b:= .append) (xs:= #[.tmp 13, .tmp 15]) rfl ?_);at_builtin;refine Kd.brz (Kd.int .i64) (w0:=w) w.heap.size rfl (.tmp 13) (.tmp 15) 57 3 (.int .i64 0) 8 rfl underlying57 info3 rfl (by decide) (by omega) u3 h0 b0 [.int .i64 b0] (fun _=>True) (fun _=>False) rfl rfl rfl (fun _ hk=>hk.elim) (fun _ _=>trivial) (xd_ e0.o) bl_ (adz bl_) (by have:=B0.o;omega) ?_;intro G0 w7 ho hb hg hat;rw [<-n0.o] at ho;have n_:=Zb (Za (hb)) (Za (ho));clear HB e0;obtain ⟨HB,k0⟩:=n_;clear ho hb hg hat))
   go_meet
   case rel=>exact ⟨_,(t0),H',⟨by have:=i0.o;first|omega|exact Zv _⟩,⟨xd_ k0.o⟩,⟨bl_⟩⟩
  case rest=>
   clear A0;clear j0 c3 r0 u0;obtain ⟨kq,g0,HA,o0,e0,HB⟩:=hcut;rcases kq with _|E0
   ·exact Yf HA.o (by simp [biz.j1])
   have H:=HA.o;clear HA;simp only [biz.j1] at H;have H':=Za H;clear H;go_wp2
   go_loopg [0] E0 (fun kq v0 w'=> ∃(d0:Int),v0= .int .i64 d0/\Aside0 (biz.l1 kq d0 g0 b0=some r)/\Aside0 (kq<=E0)/\Aside0 (Kd.R (Kd.int .i64) 3 w' w.heap.size (fun _=>True) u3 g0)/\Aside0 (Below w.heap.size w w'))
   case atStart=>exact ⟨(c0),sd_,H',⟨Zv _⟩,⟨xd_ e0.o⟩,⟨bl_⟩⟩
   clear H';obtain ⟨d0,rfl,HA,p0,e0,HB⟩:=hrel;rcases gk with _|k3
   ·exact Yf HA.o (by simp [biz.l1])
   have H:=HA.o;clear HA;simp only [biz.l1] at H;by_cases c8:b0=0
   ·rw [Ya c8] at H;exact Yf H (by simp)
   ·rw [Yb c8] at H;have H0:(b0==0)=false:=Zq c8;have F0:(b0 !=0)=true:=Yd c8;by_cases c9:(Int.tmod d0 b0)=0
    ·rw [Ya c9] at H;have y0:((Int.tmod d0 b0)==0)=true:=Ye c9;have z0:((Int.tmod d0 b0) !=0)=false:=Yc c9;clear c9;have H':=Za H;clear H;go_wp2
     go_roundg k3
     case measure=>have:=i0.o;have:=o0.o;have:=p0.o;omega
     case rel=>exact ⟨(wrap64 (Int.tdiv d0 b0)),sd_,H',⟨by have:=i0.o;have:=o0.o;have:=p0.o;omega⟩,⟨xd_ e0.o⟩,⟨bl_⟩⟩
    ·rw [Yb c9] at H;have y0:((Int.tmod d0 b0)==0)=false:=Zq c9;have z0:((Int.tmod d0 b0) !=0)=true:=Yd c9;have H':=Za H;clear H;go_wp2
     go_roundg k3
     case measure=>have:=i0.o;have:=o0.o;have:=p0.o;omega
     case rel=>exact ⟨(d0),(g0),(wrap64 (b0+1)),sd_,sd_,H',⟨by have:=i0.o;have:=o0.o;have:=p0.o;omega⟩,⟨xd_ e0.o⟩,⟨bl_⟩⟩
def clz.l0:Nat->Int->Int->Int->Int->Option (Int)
 |0,_,_,_,_=>none
 |k+1,x0,x1,x2,x7=>if x1>0 then (if (Go.bits .and .i64 x1 1)=1 then ((bQz.f k x7 x0 x2).bind fun t635=>((bQz.f k x0 x0 x2).bind fun t636=>(clz.l0 k t636 (x1 / 2) x2 t635))) else ((bQz.f k x0 x0 x2).bind fun t637=>(clz.l0 k t637 (x1 / 2) x2 x7))) else (some x7)
def clz.f (k:Nat) (a0 a1:Int) (a2:Int):Option (Int):=(buz.f k 1 a2).bind fun t634=>(clz.l0 k a0 a1 a2 t634)
theorem clz.calls (k:Nat) (a0 a1 a2 r:Int) (w:World) (h:clz.f k a0 a1 a2=some r):
  Calls prog 166 #[.int .u32 a0, .int .i64 a1, .int .u32 a2] w fun e w'=>e= .returned (.int .u32 r)/\Below w.heap.size w w':=by
 have HB:=Za (Zw w.heap.size w);have H:=h;clear h;unfold clz.f at H;obtain ⟨g0,A4,H⟩:=ob_ H
 (try dsimp only at H)
 have H':=Za H;clear H;go_enter func166,ntmps166
 go_wp2_with (first|((with_reducible refine aaz (f:=164) rfl ?_);refine gl_ (some 9) func164 #[.int .u64 1, .int .u32 a2] ?_;(with_reducible refine (buz.calls k 1 a2 g0 _ A4.o).mono ?_);rintro e w' ⟨rfl,⟨nd,rfl⟩⟩;refine ⟨_,rfl,?_⟩))
 go_loopg [0,1,7] k (fun kq v0 v1 v7 w'=> ∃(c0:Int) (b0:Int) (d0:Int),v0= .int .u32 c0/\v1= .int .i64 b0/\v7= .int .u32 d0/\Aside0 (clz.l0 kq c0 b0 a2 d0=some r)/\Aside0 (kq<=k)/\Aside0 (Below w.heap.size w w'))
 case atStart=>exact ⟨(a0),(a1),(g0),sd_,sd_,sd_,H',⟨Zv _⟩,⟨bl_⟩⟩
 clear H';obtain ⟨c0,b0,d0,rfl,rfl,rfl,HA,j0,HB⟩:=hrel;rcases gk with _|k1
 ·exact Yf HA.o (by simp [clz.l0])
 have H:=HA.o;clear HA;simp only [clz.l0] at H;by_cases c5:b0>0
 rotate_left
 ·rw [Yb c5] at H;have o0:decide (0<b0)=false:=Ze c5;clear c5;obtain rfl:=Zn H;go_wp2;go_ret;exact ⟨er_,bl_⟩
 rw [Ya c5] at H;have o0:decide (0<b0)=true:=Zd c5;clear c5;by_cases c6:(Go.bits .and .i64 b0 1)=1
 rotate_left
 ·rw [Yb c6] at H;have n0:((Go.bits .and .i64 b0 1)==1)=false:=Zq c6;have k0:((Go.bits .and .i64 b0 1) !=1)=true:=Yd c6;obtain ⟨i0,p0,H⟩:=ob_ H
  (try dsimp only at H)
  have H':=Za H;clear H
  go_wp2_with (first|((with_reducible refine aaz (f:=152) rfl ?_);refine gl_ (some 24) func152 #[.int .u32 c0, .int .u32 c0, .int .u32 a2] ?_;(with_reducible refine (bQz.calls k1 c0 c0 a2 i0 _ p0.o).mono ?_);rintro e r0 ⟨rfl,hb⟩;refine ⟨_,rfl,?_⟩;have e0:=hs_ HB hb;clear HB;have HB:=e0;clear e0;(try clear hb)))
  go_roundg k1
  case measure=>have:=j0.o;omega
  case rel=>exact ⟨(i0),(b0 / 2),(d0),sd_,sd_,sd_,H',⟨by have:=j0.o;omega⟩,⟨bl_⟩⟩
 rw [Ya c6] at H;have n0:((Go.bits .and .i64 b0 1)==1)=true:=Ye c6;have k0:((Go.bits .and .i64 b0 1) !=1)=false:=Yc c6;clear c6;obtain ⟨f0,A7,H⟩:=ob_ H
 (try dsimp only at H)
 obtain ⟨h0,A8,H⟩:=ob_ H
 (try dsimp only at H)
 have H':=Za H;clear H
 go_wp2_with (first|((with_reducible refine aaz (f:=152) rfl ?_);refine gl_ (some 20) func152 #[.int .u32 d0, .int .u32 c0, .int .u32 a2] ?_;(with_reducible refine (bQz.calls k1 d0 c0 a2 f0 _ A7.o).mono ?_);rintro e w9 ⟨rfl,hb⟩;refine ⟨_,rfl,?_⟩;have e0:=hs_ HB hb;clear HB;have HB:=e0;clear e0;(try clear hb))|((with_reducible refine aaz (f:=152) rfl ?_);refine gl_ (some 24) func152 #[.int .u32 c0, .int .u32 c0, .int .u32 a2] ?_;(with_reducible refine (bQz.calls k1 c0 c0 a2 h0 _ A8.o).mono ?_);rintro e q0 ⟨rfl,hb⟩;refine ⟨_,rfl,?_⟩;have e0:=hs_ HB hb;clear HB;have HB:=e0;clear e0;(try clear hb)))
 go_roundg k1
 case measure=>have:=j0.o;omega
 case rel=>exact ⟨(h0),(b0 / 2),(f0),sd_,sd_,sd_,H',⟨by have:=j0.o;omega⟩,⟨bl_⟩⟩
mutual
def boz.j0:Nat->Int->Bool->Option (Bool)
 |0,_,_=>none
 |k+1,x0,x13=>if x13=true then (some false) else ((ciz.f (IntKind.u64.wrap (x0))).bind fun t640=>(if 0<=t640 then ((biz.f k (wrap64 ((shl .i64 1 t640) - 1))).bind fun t641=>(boz.l0 k x0 (wrap64 ((shl .i64 1 t640) - 1)) t641 (t641.length:Int) 0)) else (none)))
def boz.l0:Nat->Int->Int->List Int->Int->Int->Option (Bool)
 |0,_,_,_,_,_=>none
 |k+1,x0,x3,x20,x21,x22=>if x22<x21 then (if 0<=x22 then (if x22<(x20.length:Int) then (if (rd x20 x22)=0 then (none) else ((clz.f k 2 (wrap64 (Int.tdiv x3 (rd x20 x22))) x0).bind fun t645=>(if t645=1 then (some false) else (boz.l0 k x0 x3 x20 x21 (wrap64 (x22+1)))))) else (none)) else (none)) else (some true)
end
def boz.f (k:Nat) (a0:Int):Option (Bool):=(blz.f k a0).bind fun t638=>(if t638=true then ((buz.f k 2 a0).bind fun t639=>(boz.j0 k a0 (t639==0))) else (boz.j0 k a0 true))
theorem boz.calls (k:Nat) (a0:Int) (r:Bool) (w:World) (h:boz.f k a0=some r):
  Calls prog 125 #[.int .u32 a0] w fun e w'=>e= .returned (.bool r)/\Below w.heap.size w w':=by
 have HB:=Za (Zw w.heap.size w);have H:=h;clear h;unfold boz.f at H;have E0:=Za H;clear H;go_enter func125,ntmps125
 go_upto_region 1 with (fail)
 go_cut [13] (fun b1 wc=> ∃(kq:Nat) (i0:Bool),b1= .bool i0/\Aside0 (boz.j0 kq a0 i0=some r)/\Aside0 (kq<=k)/\Aside0 (Below w.heap.size w wc))
 case first=>
  have H:=E0.o;clear E0;obtain ⟨H0,A3,H⟩:=ob_ H
  (try dsimp only at H)
  by_cases c4:H0=true
  ·subst c4;rw [Ya rfl] at H;obtain ⟨A0,A5,H⟩:=ob_ H
   (try dsimp only at H)
   have H':=Za H;clear H
   go_wp2_with (first|((with_reducible refine aaz (f:=163) rfl ?_);refine gl_ (some 7) func163 #[.int .u32 a0] ?_;(with_reducible refine (blz.calls k a0 true _ A3.o).mono ?_);rintro e w6 ⟨rfl,hb⟩;refine ⟨_,rfl,?_⟩;have u0:=hs_ HB hb;clear HB;have HB:=u0;clear u0;(try clear hb))|(go_at_call 164;(with_reducible refine (buz.calls k 2 a0 A0 _ A5.o).mono ?_);rintro e w' ⟨rfl,⟨nd,rfl⟩⟩))
   go_meet
   case rel=>exact ⟨_,((A0==0)),sd_,H',⟨by first|omega|exact Zv _⟩,⟨bl_⟩⟩
  ·replace c4:=Zr c4;subst c4;rw [Yb (show¬(false=true) by decide)] at H;have H':=Za H;clear H
   go_wp2_with (first|((with_reducible refine aaz (f:=163) rfl ?_);refine gl_ (some 7) func163 #[.int .u32 a0] ?_;(with_reducible refine (blz.calls k a0 false _ A3.o).mono ?_);rintro e w7 ⟨rfl,hb⟩;refine ⟨_,rfl,?_⟩;have u0:=hs_ HB hb;clear HB;have HB:=u0;clear u0;(try clear hb)))
   go_meet
   case rel=>exact ⟨_,(true),sd_,H',⟨by first|omega|exact Zv _⟩,⟨bl_⟩⟩
 case rest=>
  clear E0;obtain ⟨kq,i0,rfl,HA,T0,HB⟩:=hcut;rcases kq with _|C0
  ·exact Yf HA.o (by simp [boz.j0])
  have H:=HA.o;clear HA;simp only [boz.j0] at H;by_cases c8:i0=true
  ·subst c8;rw [Ya rfl] at H;obtain rfl:=Zn H;go_wp2;go_ret;exact ⟨er_,bl_⟩
  ·replace c8:=Zr c8;subst c8;rw [Yb (show¬(false=true) by decide)] at H;obtain ⟨g0,A9,H⟩:=ob_ H
   (try dsimp only at H)
   obtain ⟨O0,H⟩:=ig_ H;have B0:=Zz O0;have w0:=Zd O0;clear O0;obtain ⟨e0,c0⟩: ∃j_:Int,(shl .i64 1 g0)=j_:=⟨_,rfl⟩
   replace H:((biz.f C0 (wrap64 ((e0) - 1))).bind fun d0=>(boz.l0 C0 a0 (wrap64 ((e0) - 1)) d0 (d0.length:Int) 0))=some r:=by first|(rw [c0] at H;exact H)|(simp only [c0] at H|-;exact H)
   (try rw [c0] at A9)
   have n0:(IntKind.i64.wrap (1*2^min g0.toNat 64))=e0:=c0;have k0:g0<=64->(IntKind.i64.wrap (1*2^g0.toNat))=e0:=shl_small c0;have N0:(IntKind.i64.wrap (2^min g0.toNat 64))=e0:=by have h_:=n0;rw [Int.one_mul] at h_;exact h_
   have G0:g0<=64->(IntKind.i64.wrap (2^g0.toNat))=e0:=fun M0=>by have h_:=k0 M0;rw [Int.one_mul] at h_;exact h_
   have P0:(wrap64 (1*2^min g0.toNat 64))=e0:=(i64_w _).symm.trans n0;have J0:g0<=64->(wrap64 (1*2^g0.toNat))=e0:=fun h_=>(i64_w _).symm.trans (k0 h_)
   obtain ⟨d0,c1,H⟩:=ob_ H
   (try dsimp only at H)
   have H':=Za H;clear H
   go_wp2_with (first|((with_reducible refine aaz (f:=124) rfl ?_);refine gl_ (some 16) func124 #[.int .u64 (IntKind.u64.wrap (a0))] ?_;(with_reducible refine (ciz.calls (IntKind.u64.wrap (a0)) g0 _ A9.o).mono ?_);rintro e w' ⟨rfl,⟨nd,rfl⟩⟩;refine ⟨_,rfl,?_⟩)|((with_reducible refine aaz (f:=165) rfl ?_);refine goesL_ (some 20) rfl rfl func165 kr_ rfl #[.int .i64 (wrap64 ((e0) - 1))] rfl (by (try simp only [List.map_toArray,List.map_cons,List.map_nil]);first|done|(simp only [c0];rfl)|rfl|(simp only [List.length_drop,List.length_take];rfl)) ?_;(with_reducible refine (biz.calls C0 (wrap64 ((e0) - 1)) d0 _ c1.o).mono ?_);rintro e d1 ⟨a1,rfl,Y0,hb⟩;refine ⟨_,rfl,?_⟩;have n_:=Zb (Za (Kd.bCz Y0 (adz bl_))) (hs_ HB hb);clear HB;obtain ⟨p0,HB⟩:=n_;clear hb Y0;obtain ⟨I0,K0,Q0⟩:=Kd.aQz p0.o;subst Q0))
   go_loopg [22] C0 (fun kq Z0 w'=> ∃(b0:Int),Z0= .int .i64 b0/\Aside0 (boz.l0 kq a0 (wrap64 ((e0) - 1)) d0 (d0.length:Int) b0=some r)/\Aside0 (kq<=C0)/\Aside0 (Kd.R (Kd.int .i64) 3 w' w.heap.size (fun _=>True) (.slice I0 d0.length K0) d0)/\Aside0 (Below w.heap.size w w'))
   case atStart=>exact ⟨(0),sd_,H',⟨Zv _⟩,⟨xd_ p0.o⟩,⟨bl_⟩⟩
   clear H';clear B0 w0;obtain ⟨b0,rfl,HA,X0,f0,HB⟩:=hrel;rcases gk with _|k2
   ·exact Yf HA.o (by simp [boz.l0])
   have H:=HA.o;clear HA;simp only [boz.l0] at H;by_cases t0:b0<(d0.length:Int)
   rotate_left
   ·rw [Yb t0] at H;have z0:=Ze t0;clear t0;obtain rfl:=Zn H;go_wp2;go_ret;exact ⟨by first|rfl|(simp [cIz,cJz] <;>rfl)|(simp only [<-c0];first|rfl|(simp [cIz,cJz] <;>rfl))|(simp [*,cIz,cJz] <;>rfl),bl_⟩
   rw [Ya t0] at H;have z0:=Zd t0;clear t0;obtain ⟨V0,H⟩:=ih_ H;obtain ⟨R0,H⟩:=ih_ H;by_cases D0:(rd d0 b0)=0
   ·rw [Ya D0] at H;exact Yf H (by simp)
   ·rw [Yb D0] at H;have S0:((rd d0 b0)==0)=false:=Zq D0;have U0:((rd d0 b0) !=0)=true:=Yd D0;obtain ⟨h0,W0,H⟩:=ob_ H
    (try dsimp only at H)
    by_cases r0:h0=1
    ·rw [Ya r0] at H;have y0:(h0==1)=true:=Ye r0;have v0:(h0 !=1)=false:=Yc r0;clear r0;obtain rfl:=Zn H;obtain ⟨_,q0,o0,F0,L0⟩:=ix_ (Kd.aHz f0.o).2.2 b0 as_ as_;cases q0
     go_wp2_with (first|((with_reducible refine aaz (f:=166) rfl ?_);refine goesL_ (some 30) rfl rfl func166 kr_ rfl #[.int .u32 2, .int .i64 (wrap64 (Int.tdiv (wrap64 ((e0) - 1)) (rd d0 b0))), .int .u32 a0] rfl (by (try simp only [List.map_toArray,List.map_cons,List.map_nil]);first|done|(simp only [c0];rfl)|rfl|(simp only [List.length_drop,List.length_take];rfl)) ?_;(with_reducible refine (clz.calls k2 2 (wrap64 (Int.tdiv (wrap64 ((e0) - 1)) (rd d0 b0))) a0 h0 _ W0.o).mono ?_);rintro e e1 ⟨rfl,hb⟩;refine ⟨_,rfl,?_⟩;have n_:=Zb (Za (Kd.ckz (xd_ f0.o) hb)) (hs_ HB hb);clear f0 HB;obtain ⟨f0,HB⟩:=n_;(try clear hb)))
     go_ret;exact ⟨by first|rfl|(simp [cIz,cJz] <;>rfl)|(simp only [<-c0];first|rfl|(simp [cIz,cJz] <;>rfl))|(simp [*,cIz,cJz] <;>rfl),bl_⟩
    ·rw [Yb r0] at H;have y0:(h0==1)=false:=Zq r0;have v0:(h0 !=1)=true:=Yd r0;have H':=Za H;clear H;obtain ⟨_,q0,o0,F0,L0⟩:=ix_ (Kd.aHz f0.o).2.2 b0 as_ as_;cases q0
     go_wp2_with (first|((with_reducible refine aaz (f:=166) rfl ?_);refine goesL_ (some 30) rfl rfl func166 kr_ rfl #[.int .u32 2, .int .i64 (wrap64 (Int.tdiv (wrap64 ((e0) - 1)) (rd d0 b0))), .int .u32 a0] rfl (by (try simp only [List.map_toArray,List.map_cons,List.map_nil]);first|done|(simp only [c0];rfl)|rfl|(simp only [List.length_drop,List.length_take];rfl)) ?_;(with_reducible refine (clz.calls k2 2 (wrap64 (Int.tdiv (wrap64 ((e0) - 1)) (rd d0 b0))) a0 h0 _ W0.o).mono ?_);rintro e f1 ⟨rfl,hb⟩;refine ⟨_,rfl,?_⟩;have n_:=Zb (Za (Kd.ckz (xd_ f0.o) hb)) (hs_ HB hb);clear f0 HB;obtain ⟨f0,HB⟩:=n_;(try clear hb)))
     (first|go_roundg k2|(subst c0;go_roundg k2))
     case measure=>have:=T0.o;have:=X0.o;omega
     case rel=>exact ⟨(wrap64 (b0+1)),sd_,H',⟨by have:=T0.o;have:=X0.o;omega⟩,⟨xd_ f0.o⟩,⟨bl_⟩⟩
def bzz.f (a0:Int):Option (Bool):=if a0>=1 then (some (decide (a0<=20))) else (some false)
theorem bzz.calls (a0:Int) (r:Bool) (w:World) (h:bzz.f a0=some r):
  Calls prog 139 #[.int .i64 a0] w fun e w'=>e= .returned (.bool r)/\Drawn0 w w':=by
 have H:=h;clear h;unfold bzz.f at H;by_cases c2:a0>=1
 ·rw [Ya c2] at H;have b0:decide (1<=a0)=true:=Zd c2;clear c2;obtain rfl:=Zn H;go_enter func139,ntmps139;go_wp2;go_ret;exact ⟨sd_,dn_⟩
 ·rw [Yb c2] at H;have b0:decide (1<=a0)=false:=Ze c2;clear c2;obtain rfl:=Zn H;go_enter func139,ntmps139;go_wp2;go_ret;exact ⟨sd_,dn_⟩
def bWz.l0:Nat->Int->List (List Int)->Int->Int->Option ((List (List Int)))
 |0,_,_,_,_=>none
 |k+1,x0,x3,x9,x10=>if x10<x9 then (if 0<=x0 then (if (x0:Int).toNat<=35184372088832 then ((some (List.replicate (x0:Int).toNat 0:List Int)).bind fun y647=>(if 0<=x10 then (if x10<(y647.length:Int) then (if x3.length<5864062014805 then (bWz.l0 k x0 (x3++ [(y647.set (x10:Int).toNat 1)]) x9 (wrap64 (x10+1))) else (none)) else (none)) else (none))) else (none)) else (none)) else (some x3)
def bWz.f (k:Nat) (a0:Int):Option ((List (List Int))):=(bzz.f a0).bind fun t646=>(if t646=true then (bWz.l0 k a0 ([] :List (List Int)) a0 0) else (some ([] :List (List Int))))
theorem bWz.calls (k:Nat) (a0:Int) (r:List (List Int)) (w:World) (h:bWz.f k a0=some r):
  Calls prog 95 #[.int .i64 a0] w fun e w'=> ∃F0:Value,e= .returned (F0)/\Kd.S (Kd.slice 3 (Kd.int .i64)) 57 w' w.heap.size (fun _=>True) F0 r/\Below w.heap.size w w':=by
 have HB:=Za (Zw w.heap.size w);have H:=h;clear h;unfold bWz.f at H;obtain ⟨B0,A2,H⟩:=ob_ H
 (try dsimp only at H)
 by_cases c3:B0=true
 rotate_left
 ·replace c3:=Zr c3;subst c3;rw [Yb (show¬(false=true) by decide)] at H;obtain rfl:=Zn H;go_enter func95,ntmps95
  go_wp2_with (first|((with_reducible refine aaz (f:=139) rfl ?_);refine gl_ (some 7) func139 #[.int .i64 a0] ?_;(with_reducible refine (bzz.calls a0 false _ A2.o).mono ?_);rintro e w' ⟨rfl,⟨nd,rfl⟩⟩;refine ⟨_,rfl,?_⟩))
  go_ret;exact ⟨_,er_,nl_,bl_⟩
 subst c3;rw [Ya rfl] at H;have H':=Za H;clear H;go_enter func95,ntmps95
 go_wp2_with (first|((with_reducible refine aaz (f:=139) rfl ?_);refine gl_ (some 7) func139 #[.int .i64 a0] ?_;(with_reducible refine (bzz.calls a0 true _ A2.o).mono ?_);rintro e w' ⟨rfl,⟨nd,rfl⟩⟩;refine ⟨_,rfl,?_⟩))
 go_loopg [3,10] k (fun kq v3 a1 w'=> ∃(j0:List (List Int)) (b0:Int),a1= .int .i64 b0/\Aside0 (bWz.l0 kq a0 j0 a0 b0=some r)/\Aside0 (kq<=k)/\Aside0 (Kd.S (Kd.slice 3 (Kd.int .i64)) 57 w' w.heap.size (fun _=>True) v3 j0)/\Aside0 (Below w.heap.size w w'))
 case atStart=>exact ⟨(([] :List (List Int))),(0),sd_,H',⟨Zv _⟩,⟨nl_⟩,⟨bl_⟩⟩
 clear H';obtain ⟨j0,b0,rfl,HA,O0,d0,HB⟩:=hrel;rcases gk with _|k1
 ·exact Yf HA.o (by simp [bWz.l0])
 have H:=HA.o;clear HA;simp only [bWz.l0] at H;by_cases c4:b0<a0
 rotate_left
 ·rw [Yb c4] at H;have C0:=Ze c4;clear c4;obtain rfl:=Zn H;go_wp2;go_ret;exact ⟨_,er_,xd_ d0.o,bl_⟩
 rw [Ya c4] at H;have C0:=Zd c4;clear c4;obtain ⟨c5,H⟩:=ig_ H;have c1:=Zz c5;have Q0:=Zd c5;clear c5;obtain ⟨c6,H⟩:=ig_ H;have X0:=Zz c6;have W0:=Zd c6;clear c6;obtain ⟨e0,h0⟩: ∃y_:List Int,y_=(List.replicate (a0:Int).toNat 0):=⟨_,rfl⟩
 first|rw [Zl, <-h0] at H|rw [<-h0] at H
 (try dsimp only at H)
 have k0:=Za h0;clear h0;obtain ⟨b1,H⟩:=ih_ H;obtain ⟨V0,H⟩:=ih_ H;obtain ⟨n0,f0⟩: ∃y_:List Int,y_=(e0.set (b0:Int).toNat 1):=⟨_,rfl⟩
 first|rw [Zl, <-f0] at H|rw [<-f0] at H
 (try dsimp only at H)
 have u0:=Za f0;clear f0;obtain ⟨v0,H⟩:=ij_ H;obtain ⟨A0,g0⟩: ∃y_:List (List Int),y_=(j0++ [n0]):=⟨_,rfl⟩
 first|rw [Zl, <-g0] at H|rw [<-g0] at H
 (try dsimp only at H)
 have q0:=Za g0;clear g0;have H':=Za H;clear H
 go_wp2_with (first|((with_reducible refine aTz (N:=14) rfl ?_);refine Kd.R_make (Kd.int .i64) _ 3 rfl (N:=14) rfl 57 _ _ rfl a0 rfl rfl underlying57 (.int .i64 0) 8 info3 rfl (by decide) (by omega) 0 (ok:=fun _=>True) (okp:=fun _=>True) rfl (fun _ hk=>hk) trivial (Zc as_) (Zt (Nat.mul_le_mul_right _ (Zc as_:a0.toNat<=35184372088832)) (by omega)) (Zw _ _) (Zv _) ?_;intro T0 J0 i0 hb U0 t0;clear U0 t0;(first|rw [<-k0.o] at i0|(simp only [Int.reduceToNat] at i0;rw [<-k0.o] at i0));have n_:=Zb (Za (Kd.S_elder' (xd_ d0.o) (Kd.cbz i0) hb)) (Zb (Za (Kd.bCz i0 (adz bl_))) (hs_ HB hb));clear d0 HB;obtain ⟨d0,c0,HB⟩:=n_;clear hb i0;have p9:0<=(b0:Int):=Zc as_;have q9:(b0:Int)<((e0.length:Int):Int):=Zc as_;obtain ⟨o0,r0,L0,I0,S0,f1,K0⟩:=Kd.egz c0.o (by omega);(first|cases L0|(injection L0 with z0 P0 Y0;(first|subst z0|(injection z0 with z0;subst z0));subst Y0;clear P0));have d1:=Za I0;have e1:=Za K0;clear I0 S0 K0;obtain ⟨H0,E0⟩:=Kd.R_celln 0 c0.o (b0:Int) p9 q9;replace p9:=Zz p9;replace q9:=Zz q9;obtain ⟨M0,G0⟩:=Kd.R_celln 0 c0.o (b0:Int) (Zc as_) (Zc as_);have p0:=Kd.R_putg c0.o (b0:Int) 1)|((with_reducible refine dbz (t:=3) (p:=17) rfl ?_);refine dDz (t:=3) (p:=17) (v:= ?vo_w14) (w1:=(J0.setCell ⟨o0,(b0:Int).toNat,none⟩ (.int .i64 1))) ?hg ?ho ?hn ?hr ?_;(case ho=>rfl);(case hg=>rfl);(case hn=>rfl);(case hr=>first|(go_simp;done)|(go_simp;rfl));intro D0 hw;have hg:J0.grownBy D0 (some o0):=(by rw [hw];exact p0.2);have N0:Kd.R (Kd.int .i64) 3 D0 w.heap.size (fun _=>True) (.slice (some ⟨o0,0,none⟩) e0.length r0) n0:=(by rw [hw,u0.o];exact p0.1);clear p0;have n_:=Zb (Za (Kd.cFz (v:=(.slice (some ⟨o0,0,none⟩) e0.length r0)) (v1:=(.slice (some ⟨o0,0,none⟩) e0.length r0)) (ok:=(fun _=>True)) (xd_ d0.o) hg (.inl rfl))) (Zb (Za (N0)) (Za ((by rw [hw];exact dqz (HB.o) d1.o:Below w.heap.size w D0))));clear d0 c0 HB;obtain ⟨d0,c0,HB⟩:=n_;clear hg hw N0)|((with_reducible refine amz (b:= .append) (xs:= #[.tmp 18, .tmp 20]) rfl ?_);at_builtin;refine Kd.bLz (Kd.slice 3 (Kd.int .i64)) (w0:=w) w.heap.size rfl (.tmp 18) (.tmp 20) 69 57 (.slice none 0 0) 24 rfl underlying69 info57 rfl (by decide) (by omega) u3 j0 n0 [.slice (some ⟨o0,0,none⟩) e0.length r0] (fun _=>True) (fun k_=>some k_=(.slice (some ⟨o0,0,none⟩) e0.length r0:Value).ownBlock) rfl rfl (Kd.M_row (Kd.aKz (Kd.b5z rfl (Kd.aKz (ok':=fun k_=>((fun _=>True)) k_/\some k_≠(u3:Value).ownBlock) (Kd.bqz (c0.o) (Kd.bFz d0.o) (by decide)) (fun k_ hk=>⟨trivial,hk.2⟩))) (fun _ h_=>h_))) (fun k_ R0=>((Kd.aKz (ok':=fun k_=>((fun _=>True)) k_/\some k_≠(u3:Value).ownBlock) (Kd.bqz (c0.o) (Kd.bFz d0.o) (by decide)) (fun k_ hk=>⟨trivial,hk.2⟩))).1 k_ R0.symm) (fun _ _=>trivial) (sm_ d0) bl_ (adz bl_) (by have:=v0.o;omega) ?_;intro Z0 g1 ho hb hg hat;rw [<-q0.o] at ho;have n_:=Zb (Za (hb)) (Za (ho));clear HB d0 c0;obtain ⟨HB,y0⟩:=n_;clear ho hb hg hat))
 go_roundg k1
 case measure=>have:=O0.o;omega
 case rel=>exact ⟨(A0),(wrap64 (b0+1)),sd_,H',⟨by have:=O0.o;omega⟩,⟨xd_ y0.o⟩,⟨bl_⟩⟩
theorem gpN_step: ∀i,i<255->bQz.f 40 (gpN i:Int) 2 285=some (gpN (i+1):Int):=by decide+kernel
theorem gf_Size0 (g:Nat) (wb:Int) (W:World) (hc:W.cell? ⟨g,0,none⟩=some (.int .i64 wb)) (hw:wb=8\/wb=16):
  Calls prog 150 #[.pointer (some ⟨g,0,none⟩)] W fun e w'=>e= .returned (.int .i64 (fsize wb))/\Drawn0 W w':=by
 rcases hw with rfl|rfl
 all_goals
  go_enter func150,ntmps150;go_wp2;go_ret;exact ⟨by simp [fsize],Drawn0.refl _⟩
theorem gf_Size8 (g:Nat) (W:World) (hc:W.cell? ⟨g,0,none⟩=some (.int .i64 8)):
  Calls prog 150 #[.pointer (some ⟨g,0,none⟩)] W fun e w'=>e= .returned (.int .i64 256)/\Drawn0 W w':=gf_Size0 g 8 W hc (.inl rfl)
theorem make256 (W:World):(Instr.makeSlice 57 (.int .i64 256) (.int .i64 256)).run prog W= .ok (.slice (some ⟨W.heap.size,0,none⟩) 256 256) (W.alloc (.cells (nums .i64 (expAt 0)).toArray 3)):=by
 obtain ⟨i,hi,he⟩:=Option.map_eq_some_iff.1 info3;injection he with hz he
 injection he with hs hb
 have h:=run_make (P:=prog) W 57 3 i (.int .i64 0) underlying57 hi hz .i64 .i64 256 256 (by omega) (by omega) (by rw [hb];omega) (by omega);rw [hs,show madeCells (Value.int .i64 0).cells ((256:Int).toNat*1)=(nums .i64 (expAt 0)).toArray from by kernel_rfl] at h;exact h
def RS (pl g:Nat) (W:World):Prop:=W.cell? ⟨pl,0,none⟩=some (.pointer (some ⟨g,0,none⟩))/\W.cell? ⟨g,0,none⟩=some (.int .i64 8)
theorem RS.alloc {pl g:Nat} {W:World} (h:RS pl g W) (o:Obj):RS pl g (W.alloc o):=
 ⟨(World.cell?_alloc_past _ _ _ (Zj _ _ h.1)).trans h.1,(World.cell?_alloc_past _ _ _ (Zj _ _ h.2)).trans h.2⟩
theorem RS.drew {pl g:Nat} {W:World} (h:RS pl g W):RS pl g W.drew:=h
theorem RS.drewN {pl g:Nat} {W:World} (h:RS pl g W) (n:Nat):RS pl g (W.drewN n):=h
theorem RS.set {pl g:Nat} {W:World} (hne:g≠pl) (h:RS pl g W) (j:Nat) (hj:j≠0) (u:Value):RS pl g (W.setCell ⟨g,j,none⟩ u):=
 ⟨(World.cell?_setCell_other _ ⟨g,j,none⟩ ⟨pl,0,none⟩ _ (fun e=>hne (congrArg Addr.block e))).trans h.1,(World.cell?_setCell_other _ ⟨g,j,none⟩ ⟨g,0,none⟩ _ (fun e=>hj (congrArg Addr.off e))).trans h.2⟩
def R1 (W:World) (g pl:Nat) (d st se:Value) (w:World):Prop:= ∃a b:Nat,
 (∃cs,w.heap[g]?=some (.cells cs 172 (0,0))/\cs= #[.int .i64 8, .int .u32 285,d,st,se, .slice (some ⟨a,0,none⟩) 256 256, .slice (some ⟨b,0,none⟩) 256 256])/\
 w.heap[a]?=some (.cells (nums .i64 (expAt 0)).toArray 3 (0,0))/\w.heap[b]?=some (.cells (nums .i64 (expAt 0)).toArray 3 (0,0))/\w.heap[pl]?=some (.cells #[.pointer (some ⟨g,0,none⟩)] 72 (0,0))/\
 W.heap.size<=a/\W.heap.size<=b/\a≠b/\BB W w g
theorem R1.of {W w : World} {g pl a b : Nat} {d st se : Value} (h1 : ∃ cs, w.heap[g]? = some (.cells cs 172 (0, 0)) /\ cs = #[.int .i64 8, .int .u32 285, d, st, se, .slice (some ⟨a, 0, none⟩) 256 256, .slice (some ⟨b, 0, none⟩) 256 256])
  (h3:w.heap[a]?=some (.cells (nums .i64 (expAt 0)).toArray 3 (0,0))) (h4:w.heap[b]?=some (.cells (nums .i64 (expAt 0)).toArray 3 (0,0))) (h5:w.heap[pl]?=some (.cells #[.pointer (some ⟨g,0,none⟩)] 72 (0,0)))
  (h6:W.heap.size<=a) (h7:W.heap.size<=b) (h8:a≠b) (h9:BB W w g):R1 W g pl d st se w:=⟨a,b,h1,h3,h4,h5,h6,h7,h8,h9⟩
theorem bBz (w:World) (o:Obj) (n:Nat) (h:n=w.heap.size):(w.alloc o).heap[n]?=some o:=by rw [h];exact cEz w o
structure RL (W:World) (g pl:Nat) (d st se:Value) (a b k:Nat) (w:World):Prop where
 h1:w.heap[g]?=some (.cells #[.int .i64 8, .int .u32 285,d,st,se, .slice (some ⟨a,0,none⟩) 256 256, .slice (some ⟨b,0,none⟩) 256 256] 172 (0,0))
 h2:w.heap[a]?=some (.cells (nums .i64 (expAt k)).toArray 3 (0,0))
 h3:w.heap[b]?=some (.cells (nums .i64 (logAt k)).toArray 3 (0,0))
 h4:w.heap[pl]?=some (.cells #[.pointer (some ⟨g,0,none⟩)] 72 (0,0))
 h9:BB W w g
theorem RL.of {W w : World} {g pl a b : Nat} {d st se : Value} (h1 : w.heap[g]? = some (.cells #[.int .i64 8, .int .u32 285, d, st, se, .slice (some ⟨a, 0, none⟩) 256 256, .slice (some ⟨b, 0, none⟩) 256 256] 172 (0, 0)))
  (h2:w.heap[a]?=some (.cells (nums .i64 (expAt 0)).toArray 3 (0,0))) (h3:w.heap[b]?=some (.cells (nums .i64 (expAt 0)).toArray 3 (0,0))) (h4:w.heap[pl]?=some (.cells #[.pointer (some ⟨g,0,none⟩)] 72 (0,0))) (h9:BB W w g):RL W g pl d st se a b 0 w:=⟨h1,h2,h3,h4,h9⟩
theorem RL.drewN {W w:World} {g pl a b k:Nat} {d st se:Value} (h:RL W g pl d st se a b k w) (n:Nat):RL W g pl d st se a b k (w.drewN n):=⟨h.h1,h.h2,h.h3,h.h4,h.h9.drewN n⟩
theorem nums_cell {w:World} {g:Nat} {t:TypeId} {xs:List Int} (h:w.heap[g]?=some (.cells (nums .i64 xs).toArray t (0,0))) (j:Nat) (hj:j<xs.length): ∃z,w.cell? ⟨g,j,none⟩=some (.int .i64 z):=
 ⟨xs[j],(abz h j).trans (by simp [nums,hj])⟩
theorem dPz {w:World} {g:Nat} {t:TypeId} {xs ys:List Int} (h:w.heap[g]?=some (.cells (nums .i64 xs).toArray t (0,0))) (j:Nat) (z:Int) (e:xs.set j z=ys):(w.setCell ⟨g,j,none⟩ (.int .i64 z)).heap[g]?=some (.cells (nums .i64 ys).toArray t (0,0)):=
 coz h j _ (by subst e;simp [nums,List.map_set])
def RS3 (pl g a b:Nat) (W':World):Prop:=W'.cell? ⟨pl,0,none⟩=some (.pointer (some ⟨g,0,none⟩))/\W'.cell? ⟨g,5,none⟩=some (.slice (some ⟨a,0,none⟩) 256 256)/\W'.cell? ⟨g,6,none⟩=some (.slice (some ⟨b,0,none⟩) 256 256)
theorem RS3.drew {pl g a b:Nat} {W:World} (h:RS3 pl g a b W):RS3 pl g a b W.drew:=h
theorem RS3.drewN {pl g a b:Nat} {W:World} (h:RS3 pl g a b W) (n:Nat):RS3 pl g a b (W.drewN n):=h
theorem RS3.set {pl g a b c:Nat} {W:World} (hg:g≠c) (hp:pl≠c) (h:RS3 pl g a b W) (j:Nat) (u:Value):RS3 pl g a b (W.setCell ⟨c,j,none⟩ u):=
 ⟨(World.cell?_setCell_other _ ⟨c,j,none⟩ ⟨pl,0,none⟩ _ (fun e=>hp (congrArg Addr.block e).symm)).trans h.1,(World.cell?_setCell_other _ ⟨c,j,none⟩ ⟨g,5,none⟩ _ (fun e=>hg (congrArg Addr.block e).symm)).trans h.2.1,(World.cell?_setCell_other _ ⟨c,j,none⟩ ⟨g,6,none⟩ _ (fun e=>hg (congrArg Addr.block e).symm)).trans h.2.2⟩
theorem RL.step {W w:World} {g pl a b k q:Nat} {d st se:Value} (h:RL W g pl d st se a b k w) (hga:g≠a) (hgb:g≠b) (hab:a≠b) (a0:pl≠a) (hpb:pl≠b) (e1:(expAt k).set k (q:Int)=expAt (k+1)) (e2:(logAt k).set q (k:Int)=logAt (k+1)) (hla:W.heap.size<=a) (hlb:W.heap.size<=b):
  RL W g pl d st se a b (k+1) ((w.setCell ⟨a,k,none⟩ (.int .i64 q)).setCell ⟨b,q,none⟩ (.int .i64 k)):=
 ⟨bHz (bHz h.h1 hga _) hgb _,bHz (dPz h.h2 k _ e1) hab _,dPz (bHz h.h3 (Ne.symm hab) _) q _ e2,bHz (bHz h.h4 a0 _) hpb _,(h.h9.new hla _ _).new hlb _ _⟩
theorem RL.below {W w w1:World} {g pl a b k:Nat} {d st se:Value} (h:RL W g pl d st se a b k w) (hb:Below w.heap.size w w1):RL W g pl d st se a b k w1:=
 ⟨aNz h.h1 hb,aNz h.h2 hb,aNz h.h3 hb,aNz h.h4 hb,h.h9.trans (BB.of_below hb g)⟩
theorem gf_ready1.calls (g pl : Nat) (d st se:Value) (W : World) (hne : g ≠ pl)
  (hg:W.heap[g]?=some (.cells #[.int .i64 8, .int .u32 285,d,st,se, .slice none 0 0, .slice none 0 0] 172 (0,0)))
  (hp:W.heap[pl]?=some (.cells #[.pointer (some ⟨g,0,none⟩)] 72 (0,0))):
  Calls prog 179 #[.pointer (some ⟨pl,0,none⟩)] W fun e w'=>e= .returned (.tuple #[])/\ ∃a b,
   w'.heap[g]?=some (.cells #[.int .i64 8, .int .u32 285,d,st,se, .slice (some ⟨a,0,none⟩) 256 256, .slice (some ⟨b,0,none⟩) 256 256] 172 (0,0))/\
   w'.heap[a]?=some (.cells (nums .i64 (expAt 255)).toArray 3 (0,0))/\w'.heap[b]?=some (.cells (nums .i64 (logAt 255)).toArray 3 (0,0))/\
   W.heap.size<=a/\W.heap.size<=b/\BB W w' g:=by
 have h0:W.cell? ⟨pl,0,none⟩=some (.pointer (some ⟨g,0,none⟩)):=(abz hp 0).trans rfl;have g0:W.cell? ⟨g,0,none⟩=some (.int .i64 8):=(abz hg 0).trans rfl;have b0:W.cell? ⟨g,5,none⟩=some (.slice none 0 0):=(abz hg 5).trans rfl;have c0:W.cell? ⟨g,6,none⟩=some (.slice none 0 0):=(abz hg 6).trans rfl;have j0:=bbz hg 5;have n0:=bbz hg 6;have hmk:=make256;have f0:RS pl g W:=Zb h0 g0;go_enter func179,ntmps179
 go_upto_region 0 with fail
 go_cut [] (fun wx=>R1 W g pl d st se wx)
 case first=>
  have n1:=World.new_ne W _ h0;have n2:=World.new_ne W _ g0;have hgl:g<W.heap.size:=aUz hg;have hge: ¬g=W.heap.size:=by omega
  have o0: ¬g=W.heap.size+1:=by omega
  have n2':W.heap.size+1≠g:=by omega
  have c5: ∀(n:Nat) (X:Obj),((W.drewN n).alloc X).cell? ⟨g,5,none⟩=some (.slice none 0 0):=fun n X=>(World.cell?_alloc_past _ _ _ hgl).trans b0
  have c6: ∀(n:Nat) (X:Obj),((W.drewN n).alloc X).cell? ⟨g,6,none⟩=some (.slice none 0 0):=fun n X=>(World.cell?_alloc_past _ _ _ hgl).trans c0
  have f5: ∀(n:Nat) (X:Obj),((W.drewN n).alloc X).frozen? ⟨g,5,none⟩=false:=fun n X=>(World.frozen?_alloc_past _ _ _ hgl).trans j0
  have f6: ∀(n:Nat) (X:Obj),((W.drewN n).alloc X).frozen? ⟨g,6,none⟩=false:=fun n X=>(World.frozen?_alloc_past _ _ _ hgl).trans n0
  go_region_held3 (fun W'=>W'.cell? ⟨pl,0,none⟩=some (.pointer (some ⟨g,0,none⟩))/\W'.cell? ⟨g,0,none⟩=some (.int .i64 8)) (first|exact ⟨h0,g0⟩|(show RS pl g _;(repeat (first|with_reducible exact f0|with_reducible refine RS.drewN ?_ _|with_reducible refine RS.drew ?_|with_reducible refine RS.alloc ?_ _|with_reducible refine RS.set hne ?_ 5 (by decide) _|with_reducible refine RS.set hne ?_ 6 (by decide) _)))) (first|(go_at_call 150;(refine (gf_Size8 g _ (by first|assumption|(go_simp;done))).mono ?_);rintro e W1 ⟨rfl,m1,rfl⟩))
  all_goals
   go_wp2_with fail
   go_meet
   refine R1.of ⟨_,by (repeat (with_reducible first|exact hg|apply esz|apply aPz|apply doz|apply c3z)),by rfl⟩ ?_ ?_ ?_ (by omega) (by omega) (by omega) ?_
   ·repeat (first|(with_reducible first|refine bHz ?_ n2 _|refine bHz ?_ n2' _|refine doz ?_ _|refine c3z ?_)|(refine bBz _ _ _ ?_;(simp;done))|(with_reducible refine aPz ?_ _))
   ·repeat (first|(with_reducible first|refine bHz ?_ n2 _|refine bHz ?_ n2' _|refine doz ?_ _|refine c3z ?_)|(refine bBz _ _ _ ?_;(simp;done))|(with_reducible refine aPz ?_ _))
   ·repeat (with_reducible first|exact hp|refine bHz ?_ (Ne.symm hne) _|refine aPz ?_ _|refine doz ?_ _|refine c3z ?_)
   ·repeat (with_reducible first|exact BB.refl _ _|refine BB.set ?_ _ _|refine BB.alloc ?_ _|refine BB.drewN ?_ _|refine BB.drew ?_)
 case rest=>
  obtain ⟨a,b,⟨_,hgb,rfl⟩,ha,hb,hpl,hla,hlb,hab,i0⟩:=hcut;have u0:wc.cell? ⟨pl,0,none⟩=some (.pointer (some ⟨g,0,none⟩)):=(abz hpl 0).trans rfl;have e0:wc.cell? ⟨g,0,none⟩=some (.int .i64 8):=(abz hgb 0).trans rfl;have HL:=Za (RL.of hgb ha hb hpl (h9:=i0));have hpl':pl<W.heap.size:=aUz hp;have hgl':g<W.heap.size:=aUz hg;clear hg hp h0 g0 b0 c0 j0 n0 hmk f0 hgb ha hb hpl i0
  go_wp2_with (first|(go_at_call 150;(refine (gf_Size8 g _ (by first|assumption|(go_simp;done))).mono ?_);rintro e W1 ⟨rfl,m1,rfl⟩))
  go_loopw [1,20] (fun x i wr=> ∃k:Nat,k<=255/\x= .int .i64 (gpN k:Int)/\i= .int .i64 k/\Aside0 (RL W g pl d st se a b k wr)) (fun _ i _=>255 - (intOf i).toNat)
  case atStart=>exact ⟨0,by omega,rfl,rfl,⟨HL.o.drewN _⟩⟩
  clear u0 e0 HL;obtain ⟨k,hk,rfl,rfl,HL⟩:=hrel;by_cases hlt:k<255
  ·have HS:=Za (gpN_step k hlt);have HQ:=Za (show (logAt k).set (gpN k) (k:Int)=logAt (k+1) from rfl);obtain ⟨q3,q4⟩:=gpN_range (k+1) (by omega);obtain ⟨q',hq'⟩: ∃q',gpN (k+1)=q':=⟨_,rfl⟩;rw [hq'] at HS q3 q4;have HQ':=Za hq';clear hq';obtain ⟨q1,q2⟩:=gpN_range k (by omega);have HE:=Za (show (expAt k).set k (gpN k:Int)=expAt (k+1) from rfl);generalize gpN k=q at HS HQ HE q1 q2|-;have hga:g≠a:=by rintro rfl;omega
   have hgb:g≠b:=by rintro rfl;omega
   have k0:pl≠a:=by omega
   have hpb:pl≠b:=by omega
   have a0:wr.cell? ⟨pl,0,none⟩=some (.pointer (some ⟨g,0,none⟩)):=(abz HL.o.h4 0).trans rfl;have e0:wr.cell? ⟨g,1,none⟩=some (.int .u32 285):=(abz HL.o.h1 1).trans rfl;have b0:wr.cell? ⟨g,5,none⟩=some (.slice (some ⟨a,0,none⟩) 256 256):=(abz HL.o.h1 5).trans rfl;have c0:wr.cell? ⟨g,6,none⟩=some (.slice (some ⟨b,0,none⟩) 256 256):=(abz HL.o.h1 6).trans rfl;obtain ⟨z1,q0⟩:=nums_cell HL.o.h2 k (by rw [ezz];omega);obtain ⟨z2,r0⟩:=nums_cell HL.o.h3 q (by rw [eAz];omega);have t0:=bbz HL.o.h2 k;have p0:=bbz HL.o.h3 q;have i1:(0:Int)<=(k:Int):=by omega
   have i2:(k:Int)<256:=by omega
   have i3:(0:Int)<=(q:Int):=by omega
   have i4:(q:Int)<256:=by omega
   have f0:RS3 pl g a b wr:=⟨a0,b0,c0⟩
   go_wp2_with fail
   go_region_held3 (fun W'=>W'.cell? ⟨pl,0,none⟩=some (.pointer (some ⟨g,0,none⟩))/\W'.cell? ⟨g,5,none⟩=some (.slice (some ⟨a,0,none⟩) 256 256)/\W'.cell? ⟨g,6,none⟩=some (.slice (some ⟨b,0,none⟩) 256 256)) (first|exact ⟨a0,b0,c0⟩|(show RS3 pl g a b _;(repeat (first|with_reducible exact f0|with_reducible refine RS3.drewN ?_ _|with_reducible refine RS3.drew ?_|with_reducible refine RS3.set hga k0 ?_ _ _|with_reducible refine RS3.set hgb hpb ?_ _ _)))) (fail)
   have HN:=Za (RL.step HL.o hga hgb hab k0 hpb HE.o HQ.o hla hlb);clear HL a0 e0 b0 c0 t0 p0 q0 r0;have d0:=Za (HN.o.drewN 1);have l0:((wr.setCell ⟨a,k,none⟩ (.int .i64 q)).setCell ⟨b,q,none⟩ (.int .i64 k)).drew=((wr.setCell ⟨a,k,none⟩ (.int .i64 q)).setCell ⟨b,q,none⟩ (.int .i64 k)).drewN 1:=rfl;rw [l0];clear HN l0;generalize ((wr.setCell ⟨a,k,none⟩ (.int .i64 q)).setCell ⟨b,q,none⟩ (.int .i64 k)).drewN 1=w2 at d0|-;have a0:w2.cell? ⟨pl,0,none⟩=some (.pointer (some ⟨g,0,none⟩)):=(abz d0.o.h4 0).trans rfl;have e0:w2.cell? ⟨g,1,none⟩=some (.int .u32 285):=(abz d0.o.h1 1).trans rfl
   go_wp2_with (first|(go_at_call 152;(refine (bQz.calls 40 _ _ _ _ _ HS.o).mono ?_);rintro e W1 ⟨rfl,hB⟩))
   exact ⟨⟨k+1,by omega,by rw [HQ'.o],by go_num,⟨d0.o.below hB⟩⟩,by simp [intOf];omega⟩
  ·have:k=255:=by omega
   subst this;go_wp2
   go_end0
   exact ⟨rfl,a,b,HL.o.h1,HL.o.h2,HL.o.h3,hla,hlb,HL.o.h9⟩
theorem gf_Bits.calls (g:Nat) (wb p:Int) (S:Nat->Prop) (W:World) (hF:Fd W g wb p S):
  Calls prog 155 #[.pointer (some ⟨g,0,none⟩)] W fun e w'=>e= .returned (.int .i64 wb)/\Drawn0 W w':=by
 have hc:=hF.bits;clear hF;go_enter func155,ntmps155;go_wp2;go_ret;exact ⟨rfl,Drawn0.refl _⟩
theorem euz.calls (g:Nat) (wb p:Int) (S:Nat->Prop) (W:World) (hF:Fd W g wb p S) (hw:wb=8\/wb=16):
  Calls prog 150 #[.pointer (some ⟨g,0,none⟩)] W fun e w'=>e= .returned (.int .i64 (fsize wb))/\Drawn0 W w':=by
 have hc:=hF.bits;clear hF;rcases hw with rfl|rfl
 all_goals
  go_enter func150,ntmps150;go_wp2;go_ret;exact ⟨by simp [fsize],Drawn0.refl _⟩
theorem gf_in.calls (g:Nat) (wb p:Int) (S:Nat->Prop) (A:Option Addr) (c:Nat) (l:List Int) (W:World) (hF:Fd W g wb p S) (hw:wb=8\/wb=16) (hr:Kd.C (Kd.int .i64) W A l.length l) (hl:l.length<=1000000):
  Calls prog 151 #[.pointer (some ⟨g,0,none⟩), .slice A l.length c] W fun e w'=>e= .returned (.bool (allIn wb l))/\Drawn0 W w':=by
 have HF:=Za hF;have HR:=Za hr;clear hF hr;go_enter func151,ntmps151;go_wp2
 go_loopw [9] (fun i wr=> ∃k m:Nat,k<=l.length/\i= .int .i64 k/\wr=W.drewN m/\allIn wb l=allIn wb (l.drop k))
  (fun i _=>l.length - (intOf i).toNat)
 case atStart=>exact ⟨0,0,Nat.zero_le _,rfl,rfl,by rw [List.drop_zero]⟩
 obtain ⟨k,m,hk,rfl,rfl,hall⟩:=hrel;by_cases hlt:k<l.length
 ·have hd : allIn wb (l.drop k) = ((decide (0 <= rd l (k : Int)) && decide (rd l (k : Int) < fsize wb)) && allIn wb (l.drop (k + 1))) := by
   rw [List.drop_eq_getElem_cons hlt];simp [allIn,rd,Zm,hlt, -List.getElem_cons_drop]
  rw [hd] at hall;clear hd;obtain ⟨ad,e1,hx⟩:=Kd.ehz (Kd.bEz HR.o m) (k:Int) (by omega) (by omega);cases e1
  simp only [Zu] at hx;generalize rd l (k:Int)=z at hx hall;have a0:=Za hall;clear hall;by_cases hz:z<0
  ·have d0:decide (z<0)=true:=Zd hz;go_wp2;go_ret;refine ⟨?_,Drawn0.step (Drawn0.refl _) _⟩;rw [a0.o,Ze (by omega)];rfl
  ·have d0:decide (z<0)=false:=Ze hz;by_cases b0:fsize wb<=z
   ·have c0:decide (fsize wb<=z)=true:=Zd b0
    go_wp2_with (go_at_call 150;refine (euz.calls g wb p S _ (HF.o.drewN m) hw).mono ?_;rintro e w9 ⟨rfl,m9,rfl⟩)
    go_ret;refine ⟨?_,dn_⟩;rw [a0.o,Ze (show¬z<fsize wb by omega),Bool.and_false];rfl
   ·have c0:decide (fsize wb<=z)=false:=Ze b0
    go_wp2_with (go_at_call 150;refine (euz.calls g wb p S _ (HF.o.drewN m) hw).mono ?_;rintro e w9 ⟨rfl,m9,rfl⟩)
    go_roundw
    case rel=>exact ⟨k+1,m+m9,by omega,by go_num,by simp [World.drewN_drewN],by rw [a0.o,Zd (show 0<=z by omega),Zd (show z<fsize wb by omega)];rfl⟩
    case measure=>simp [intOf];omega
 ·have:k=l.length:=by omega
  subst this;have a0:=Za hall;go_wp2;go_ret;refine ⟨?_,Drawn0.step (Drawn0.refl _) _⟩;rw [a0.o,List.drop_length];rfl
end Go.Proofs.Xc
end
