-- Joined texts of this work (wip/tools/bundle.py).
import Derived.RegionTactic
import Derived.Test.YtpdakdcmahlghaaGreatBReconUpdates4
set_option maxHeartbeats 8000000
set_option maxRecDepth 100000
set_option linter.unusedVariables false
set_option linter.unusedSimpArgs false
section
namespace Go.Proofs.Xc
open Go.RowKit Go.Proofs.Pw Go.Proofs.Pl Go.Proofs.Pm
attribute [local go_sem] a7z a8z bjz bkz aZz a0z a9z baz
def aMz.l0:Nat->Int->Int->Int->Int->Option (Int)
 |0,_,_,_,_=>none
 |k+1,x0,x1,x2,x7=>if x1>0 then (if (Int.tmod x1 2)=1 then ((aFz.f k x7 x0 x2).bind fun t163=>((aFz.f k x0 x0 x2).bind fun t164=>(aMz.l0 k t164 (IntKind.u64.wrap (Int.tdiv x1 2)) x2 t163))) else ((aFz.f k x0 x0 x2).bind fun t165=>(aMz.l0 k t165 (IntKind.u64.wrap (Int.tdiv x1 2)) x2 x7))) else (some x7)
def aMz.f (k:Nat) (a0:Int) (a1:Int) (a2:Int):Option (Int):=(auz.f k 1 a2).bind fun t162=>(aMz.l0 k a0 a1 a2 t162)
theorem aMz.aVz: ∀k,(∀y0 y1 y2 y3,LeO (aMz.l0 k y0 y1 y2 y3) (aMz.l0 (k+1) y0 y1 y2 y3))
 |0=>fun _ _ _ _ r h=>by simp [aMz.l0] at h
 |k+1=>by
  have ih0:=aMz.aVz k
  ·intro y0 y1 y2 y3;unfold aMz.l0
   repeat' with_reducible first|apply ih0|apply auz.mono|apply aFz.mono|apply Yg|apply Yh|apply Yi|refine Yj ?_ fun _=>?_
theorem aMz.mono: ∀a0 a1 a2 k,LeO (aMz.f k a0 a1 a2) (aMz.f (k+1) a0 a1 a2):=by
 intro a0 a1 a2 k;have ih0:=aMz.aVz k;unfold aMz.f
 repeat' with_reducible first|apply ih0|apply auz.mono|apply aFz.mono|apply Yg|apply Yh|apply Yi|refine Yj ?_ fun _=>?_
theorem aMz.calls (k : Nat) (a0 : Int) (a1 : Int) (a2 : Int) (r : Int) (w : World) (h : aMz.f k a0 a1 a2 = some r) :
  Calls Tryz.prog 188 #[.int .u32 a0, .int .u64 a1, .int .u32 a2] w fun e w'=>e= .returned (.int .u32 r)/\Drawn0 w w':=by
 have H:=h;clear h;unfold aMz.f at H;obtain ⟨t162,A4,H⟩:=ob_ H
 (try dsimp only at H)
 have H':=Za H;clear H;go_enter Tryz.func188,Tryz.ntmps188
 go_wp2_with (first|((with_reducible refine abz (f:=180) rfl ?_);refine gl_ (some 9) Tryz.func180 #[.int .u64 1, .int .u32 a2] ?_;(with_reducible refine (auz.calls k 1 a2 t162 _ A4.out).mono ?_);rintro e w' ⟨rfl,⟨nd,rfl⟩⟩;refine ⟨_,rfl,?_⟩))
 go_loopg [0,1,7] k (fun kq v0 v1 v7 w'=> ∃(x0_1:Int) (x1_1:Int) (x7_1:Int),v0= .int .u32 x0_1/\v1= .int .u64 x1_1/\v7= .int .u32 x7_1/\Aside0 (aMz.l0 kq x0_1 x1_1 a2 x7_1=some r)/\Aside0 (kq<=k)/\Drawn0 w w')
 case atStart=>exact ⟨(a0),(a1),(t162),sd_,sd_,sd_,H',⟨Zv _⟩,dn_⟩
 clear H';obtain ⟨x0_1,x1_1,x7_1,rfl,rfl,rfl,HA,HK1,⟨m1,rfl⟩⟩:=hrel;rcases gk with _|k1
 ·exact Yf HA.out (by simp [aMz.l0])
 have H:=HA.out;clear HA;simp only [aMz.l0] at H;by_cases c5:x1_1>0
 rotate_left
 ·rw [Yb c5] at H;have c5b0:decide (0<x1_1)=false:=Ze c5;clear c5;obtain rfl:=Zn H;go_wp2;go_ret;exact ⟨sd_,dn_⟩
 rw [Ya c5] at H;have c5b0:decide (0<x1_1)=true:=Zd c5;clear c5;by_cases c6:(Int.tmod x1_1 2)=1
 rotate_left
 ·rw [Yb c6] at H;have c6b0:((Int.tmod x1_1 2)==1)=false:=Zq c6;have c6b1:((Int.tmod x1_1 2) !=1)=true:=Yd c6;obtain ⟨t165,A9,H⟩:=ob_ H
  (try dsimp only at H)
  have H':=Za H;clear H
  go_wp2_with (first|((with_reducible refine abz (f:=157) rfl ?_);refine gl_ (some 22) Tryz.func157 #[.int .u32 x0_1, .int .u32 x0_1, .int .u32 a2] ?_;(with_reducible refine (aFz.calls k1 x0_1 x0_1 a2 t165 _ A9.out).mono ?_);rintro e w' ⟨rfl,⟨nd,rfl⟩⟩;refine ⟨_,rfl,?_⟩))
  go_roundg k1
  case measure=>have:=HK1.out;omega
  case rel=>exact ⟨(t165),(IntKind.u64.wrap (Int.tdiv x1_1 2)),(x7_1),sd_,sd_,sd_,H',⟨by have:=HK1.out;omega⟩,dn_⟩
 rw [Ya c6] at H;have c6b0:((Int.tmod x1_1 2)==1)=true:=Ye c6;have c6b1:((Int.tmod x1_1 2) !=1)=false:=Yc c6;clear c6;obtain ⟨t163,A7,H⟩:=ob_ H
 (try dsimp only at H)
 obtain ⟨t164,A8,H⟩:=ob_ H
 (try dsimp only at H)
 have H':=Za H;clear H
 go_wp2_with (first|((with_reducible refine abz (f:=157) rfl ?_);refine gl_ (some 18) Tryz.func157 #[.int .u32 x7_1, .int .u32 x0_1, .int .u32 a2] ?_;(with_reducible refine (aFz.calls k1 x7_1 x0_1 a2 t163 _ A7.out).mono ?_);rintro e w' ⟨rfl,⟨nd,rfl⟩⟩;refine ⟨_,rfl,?_⟩)|((with_reducible refine abz (f:=157) rfl ?_);refine gl_ (some 22) Tryz.func157 #[.int .u32 x0_1, .int .u32 x0_1, .int .u32 a2] ?_;(with_reducible refine (aFz.calls k1 x0_1 x0_1 a2 t164 _ A8.out).mono ?_);rintro e w' ⟨rfl,⟨nd,rfl⟩⟩;refine ⟨_,rfl,?_⟩))
 go_roundg k1
 case measure=>have:=HK1.out;omega
 case rel=>exact ⟨(t164),(IntKind.u64.wrap (Int.tdiv x1_1 2)),(t163),sd_,sd_,sd_,H',⟨by have:=HK1.out;omega⟩,dn_⟩
def aKz.f (k:Nat) (a0:Int) (a1:Int) (a2:Int) (a3:Int):Option (Int):=(afz.f k a0 a2).bind fun t166=>(if t166=true then (if a3<0 then (some 0) else ((aMz.f k ((a2) % 4294967296) (IntKind.u64.wrap (a3)) a1).bind fun t167=>(some (wrap64 (t167))))) else (some 0))
theorem aKz.mono: ∀a0 a1 a2 a3 k,LeO (aKz.f k a0 a1 a2 a3) (aKz.f (k+1) a0 a1 a2 a3):=by
 intro a0 a1 a2 a3 k;unfold aKz.f
 repeat' with_reducible first|apply aMz.mono|apply afz.mono|apply Yg|apply Yh|apply Yi|refine Yj ?_ fun _=>?_
theorem aKz.calls (k : Nat) (a0 : Int) (a1 : Int) (a2 : Int) (a3 : Int) (r : Int) (w : World) (h : aKz.f k a0 a1 a2 a3 = some r) :
  Calls Tryz.prog 168 #[.int .i64 a0, .int .u32 a1, .int .i64 a2, .int .i64 a3] w fun e w'=>e= .returned (.int .i64 r)/\Drawn0 w w':=by
 have H:=h;clear h;unfold aKz.f at H;obtain ⟨t166,A5,H⟩:=ob_ H
 (try dsimp only at H)
 by_cases c6:t166=true
 rotate_left
 ·replace c6:=Zr c6;subst c6;rw [Yb (show¬(false=true) by decide)] at H;obtain rfl:=Zn H;go_enter Tryz.func168,Tryz.ntmps168
  go_wp2_with (first|((with_reducible refine abz (f:=106) rfl ?_);refine gl_ (some 11) Tryz.func106 #[.int .i64 a0, .int .i64 a2] ?_;(with_reducible refine (afz.calls k a0 a2 false _ A5.out).mono ?_);rintro e w' ⟨rfl,⟨nd,rfl⟩⟩;refine ⟨_,rfl,?_⟩))
  go_ret;exact ⟨sd_,dn_⟩
 subst c6;rw [Ya rfl] at H;by_cases c7:a3<0
 ·rw [Ya c7] at H;have c7b0:=Zd c7;clear c7;obtain rfl:=Zn H;go_enter Tryz.func168,Tryz.ntmps168
  go_wp2_with (first|((with_reducible refine abz (f:=106) rfl ?_);refine gl_ (some 11) Tryz.func106 #[.int .i64 a0, .int .i64 a2] ?_;(with_reducible refine (afz.calls k a0 a2 true _ A5.out).mono ?_);rintro e w' ⟨rfl,⟨nd,rfl⟩⟩;refine ⟨_,rfl,?_⟩))
  go_ret;exact ⟨sd_,dn_⟩
 ·rw [Yb c7] at H;have c7b0:=Ze c7;clear c7;obtain ⟨t167,A8,H⟩:=ob_ H
  (try dsimp only at H)
  obtain rfl:=Zn H;go_enter Tryz.func168,Tryz.ntmps168
  go_wp2_with (first|((with_reducible refine abz (f:=106) rfl ?_);refine gl_ (some 11) Tryz.func106 #[.int .i64 a0, .int .i64 a2] ?_;(with_reducible refine (afz.calls k a0 a2 true _ A5.out).mono ?_);rintro e w' ⟨rfl,⟨nd,rfl⟩⟩;refine ⟨_,rfl,?_⟩)|((with_reducible refine abz (f:=188) rfl ?_);refine gl_ (some 22) Tryz.func188 #[.int .u32 ((a2) % 4294967296), .int .u64 (IntKind.u64.wrap (a3)), .int .u32 a1] ?_;(with_reducible refine (aMz.calls k ((a2) % 4294967296) (IntKind.u64.wrap (a3)) a1 t167 _ A8.out).mono ?_);rintro e w' ⟨rfl,⟨nd,rfl⟩⟩;refine ⟨_,rfl,?_⟩))
  go_ret;exact ⟨sd_,dn_⟩
def aqz.j0:Nat->Int->Int->Int->Bool->Option (Int×Bool)
 |0,_,_,_,_=>none
 |k+1,x0,x1,x2,x15=>if x15=true then (some (0,false)) else ((atz.f k x0).bind fun t169=>((aKz.f k x0 x1 x2 (wrap64 (t169 - 2))).bind fun t170=>(some (t170,true))))
def aqz.f (k:Nat) (a0:Int) (a1:Int) (a2:Int):Option (Int×Bool):=(afz.f k a0 a2).bind fun t168=>(if t168=true then (aqz.j0 k a0 a1 a2 (a2==0)) else (aqz.j0 k a0 a1 a2 true))
theorem aqz.aVz: ∀k,(∀y0 y1 y2 y3,LeO (aqz.j0 k y0 y1 y2 y3) (aqz.j0 (k+1) y0 y1 y2 y3))
 |0=>fun _ _ _ _ r h=>by simp [aqz.j0] at h
 |k+1=>by
  have ih0:=aqz.aVz k
  ·intro y0 y1 y2 y3;unfold aqz.j0
   repeat' with_reducible first|apply ih0|apply afz.mono|apply aKz.mono|apply atz.mono|apply Yg|apply Yh|apply Yi|refine Yj ?_ fun _=>?_
theorem aqz.mono: ∀a0 a1 a2 k,LeO (aqz.f k a0 a1 a2) (aqz.f (k+1) a0 a1 a2):=by
 intro a0 a1 a2 k;have ih0:=aqz.aVz k;unfold aqz.f
 repeat' with_reducible first|apply ih0|apply afz.mono|apply aKz.mono|apply atz.mono|apply Yg|apply Yh|apply Yi|refine Yj ?_ fun _=>?_
theorem aqz.calls (k : Nat) (a0 : Int) (a1 : Int) (a2 : Int) (r1 : Int) (r2 : Bool) (w : World) (h : aqz.f k a0 a1 a2 = some (r1, r2)) :
  Calls Tryz.prog 146 #[.int .i64 a0, .int .u32 a1, .int .i64 a2] w fun e w'=>e= .returned (.tuple #[.int .i64 r1, .bool r2])/\Drawn0 w w':=by
 have H:=h;clear h;unfold aqz.f at H;have HC4:=Za H;clear H;go_enter Tryz.func146,Tryz.ntmps146
 go_upto_region 1 with (fail)
 go_cut [15] (fun v15 wc=> ∃(kq:Nat) (x15_3:Bool),v15= .bool x15_3/\Aside0 (aqz.j0 kq a0 a1 a2 x15_3=some (r1,r2))/\Aside0 (kq<=k)/\Drawn0 w wc)
 case first=>
  have H:=HC4.out;clear HC4;obtain ⟨t168,A5,H⟩:=ob_ H
  (try dsimp only at H)
  by_cases c6:t168=true
  ·subst c6;rw [Ya rfl] at H;have H':=Za H;clear H
   go_wp2_with (first|((with_reducible refine abz (f:=106) rfl ?_);refine gl_ (some 10) Tryz.func106 #[.int .i64 a0, .int .i64 a2] ?_;(with_reducible refine (afz.calls k a0 a2 true _ A5.out).mono ?_);rintro e w' ⟨rfl,⟨nd,rfl⟩⟩;refine ⟨_,rfl,?_⟩))
   go_meet
   case rel=>exact ⟨_,((a2==0)),sd_,H',⟨by first|omega|exact Zv _⟩,dn_⟩
  ·replace c6:=Zr c6;subst c6;rw [Yb (show¬(false=true) by decide)] at H;have H':=Za H;clear H
   go_wp2_with (first|((with_reducible refine abz (f:=106) rfl ?_);refine gl_ (some 10) Tryz.func106 #[.int .i64 a0, .int .i64 a2] ?_;(with_reducible refine (afz.calls k a0 a2 false _ A5.out).mono ?_);rintro e w' ⟨rfl,⟨nd,rfl⟩⟩;refine ⟨_,rfl,?_⟩))
   go_meet
   case rel=>exact ⟨_,(true),sd_,H',⟨by first|omega|exact Zv _⟩,dn_⟩
 case rest=>
  clear HC4;obtain ⟨kq,x15_3,rfl,HA,HJ3,⟨mc3,rfl⟩⟩:=hcut;rcases kq with _|kj3
  ·exact Yf HA.out (by simp [aqz.j0])
  have H:=HA.out;clear HA;simp only [aqz.j0] at H;by_cases c7:x15_3=true
  ·subst c7;rw [Ya rfl] at H;simp only [Zx,Zy] at H;obtain ⟨rfl,rfl⟩:=H;go_wp2;go_ret2;exact ⟨sd_,dn_⟩
  ·replace c7:=Zr c7;subst c7;rw [Yb (show¬(false=true) by decide)] at H;obtain ⟨t169,A8,H⟩:=ob_ H
   (try dsimp only at H)
   obtain ⟨t170,A9,H⟩:=ob_ H
   (try dsimp only at H)
   simp only [Zx,Zy] at H;obtain ⟨rfl,rfl⟩:=H
   go_wp2_with (first|((with_reducible refine abz (f:=156) rfl ?_);refine gl_ (some 20) Tryz.func156 #[.int .i64 a0] ?_;(with_reducible refine (atz.calls kj3 a0 t169 _ A8.out).mono ?_);rintro e w' ⟨rfl,⟨nd,rfl⟩⟩;refine ⟨_,rfl,?_⟩)|((with_reducible refine abz (f:=168) rfl ?_);refine gl_ (some 22) Tryz.func168 #[.int .i64 a0, .int .u32 a1, .int .i64 a2, .int .i64 (wrap64 (t169 - 2))] ?_;(with_reducible refine (aKz.calls kj3 a0 a1 a2 (wrap64 (t169 - 2)) t170 _ A9.out).mono ?_);rintro e w' ⟨rfl,⟨nd,rfl⟩⟩;refine ⟨_,rfl,?_⟩))
   go_ret2;exact ⟨sd_,dn_⟩
def axz.f (k:Nat) (a0:Int) (a1:Int) (a2:Int) (a3:Int):Option (Int):=(afz.f k a0 a2).bind fun t171=>(if t171=true then ((afz.f k a0 a3).bind fun t172=>(if t172=true then ((aFz.f k ((a2) % 4294967296) ((a3) % 4294967296) a1).bind fun t173=>(some (wrap64 (t173)))) else (some 0))) else (some 0))
theorem axz.mono: ∀a0 a1 a2 a3 k,LeO (axz.f k a0 a1 a2 a3) (axz.f (k+1) a0 a1 a2 a3):=by
 intro a0 a1 a2 a3 k;unfold axz.f
 repeat' with_reducible first|apply aFz.mono|apply afz.mono|apply Yg|apply Yh|apply Yi|refine Yj ?_ fun _=>?_
theorem axz.calls (k : Nat) (a0 : Int) (a1 : Int) (a2 : Int) (a3 : Int) (r : Int) (w : World) (h : axz.f k a0 a1 a2 a3 = some r) :
  Calls Tryz.prog 107 #[.int .i64 a0, .int .u32 a1, .int .i64 a2, .int .i64 a3] w fun e w'=>e= .returned (.int .i64 r)/\Drawn0 w w':=by
 have H:=h;clear h;unfold axz.f at H;obtain ⟨t171,A5,H⟩:=ob_ H
 (try dsimp only at H)
 by_cases c6:t171=true
 rotate_left
 ·replace c6:=Zr c6;subst c6;rw [Yb (show¬(false=true) by decide)] at H;obtain rfl:=Zn H;go_enter Tryz.func107,Tryz.ntmps107
  go_wp2_with (first|((with_reducible refine abz (f:=106) rfl ?_);refine gl_ (some 11) Tryz.func106 #[.int .i64 a0, .int .i64 a2] ?_;(with_reducible refine (afz.calls k a0 a2 false _ A5.out).mono ?_);rintro e w' ⟨rfl,⟨nd,rfl⟩⟩;refine ⟨_,rfl,?_⟩))
  go_ret;exact ⟨sd_,dn_⟩
 subst c6;rw [Ya rfl] at H;obtain ⟨t172,A7,H⟩:=ob_ H
 (try dsimp only at H)
 by_cases c8:t172=true
 ·subst c8;rw [Ya rfl] at H;obtain ⟨t173,A9,H⟩:=ob_ H
  (try dsimp only at H)
  obtain rfl:=Zn H;go_enter Tryz.func107,Tryz.ntmps107
  go_wp2_with (first|((with_reducible refine abz (f:=106) rfl ?_);refine gl_ (some 11) Tryz.func106 #[.int .i64 a0, .int .i64 a2] ?_;(with_reducible refine (afz.calls k a0 a2 true _ A5.out).mono ?_);rintro e w' ⟨rfl,⟨nd,rfl⟩⟩;refine ⟨_,rfl,?_⟩)|(go_at_call 106;(with_reducible refine (afz.calls k a0 a3 true _ A7.out).mono ?_);rintro e w' ⟨rfl,⟨nd,rfl⟩⟩)|((with_reducible refine abz (f:=157) rfl ?_);refine gl_ (some 24) Tryz.func157 #[.int .u32 ((a2) % 4294967296), .int .u32 ((a3) % 4294967296), .int .u32 a1] ?_;(with_reducible refine (aFz.calls k ((a2) % 4294967296) ((a3) % 4294967296) a1 t173 _ A9.out).mono ?_);rintro e w' ⟨rfl,⟨nd,rfl⟩⟩;refine ⟨_,rfl,?_⟩))
  go_ret;exact ⟨sd_,dn_⟩
 ·replace c8:=Zr c8;subst c8;rw [Yb (show¬(false=true) by decide)] at H;obtain rfl:=Zn H;go_enter Tryz.func107,Tryz.ntmps107
  go_wp2_with (first|((with_reducible refine abz (f:=106) rfl ?_);refine gl_ (some 11) Tryz.func106 #[.int .i64 a0, .int .i64 a2] ?_;(with_reducible refine (afz.calls k a0 a2 true _ A5.out).mono ?_);rintro e w' ⟨rfl,⟨nd,rfl⟩⟩;refine ⟨_,rfl,?_⟩)|(go_at_call 106;(with_reducible refine (afz.calls k a0 a3 false _ A7.out).mono ?_);rintro e w' ⟨rfl,⟨nd,rfl⟩⟩))
  go_ret;exact ⟨sd_,dn_⟩
def aGz.l0:Nat->Int->Int->List Int->Int->List Int->Int->Option (List Int)
 |0,_,_,_,_,_,_=>none
 |k+1,x0,x1,x2,x3,x9,x10=>if x10<(x2.length:Int) then (if 0<=x10 then ((axz.f k x0 x1 (rd x2 x10) x3).bind fun t175=>(if x9.length<17592186044416 then (aGz.l0 k x0 x1 x2 x3 (x9++ [t175]) (wrap64 (x10+1))) else (none))) else (none)) else (some x9)
def aGz.f (k:Nat) (a0:Int) (a1:Int) (l2:List Int) (a3:Int):Option (List Int):=aGz.l0 k a0 a1 l2 a3 ([] :List Int) 0
theorem aGz.aVz: ∀k,(∀y0 y1 y2 y3 y4 y5,LeO (aGz.l0 k y0 y1 y2 y3 y4 y5) (aGz.l0 (k+1) y0 y1 y2 y3 y4 y5))
 |0=>fun _ _ _ _ _ _ r h=>by simp [aGz.l0] at h
 |k+1=>by
  have ih0:=aGz.aVz k
  ·intro y0 y1 y2 y3 y4 y5;unfold aGz.l0
   repeat' with_reducible first|apply ih0|apply axz.mono|apply Yg|apply Yh|apply Yi|refine Yj ?_ fun _=>?_
theorem aGz.mono: ∀a0 a1 a2 a3 k,LeO (aGz.f k a0 a1 a2 a3) (aGz.f (k+1) a0 a1 a2 a3):=by
 intro a0 a1 a2 a3 k;have ih0:=aGz.aVz k;unfold aGz.f
 repeat' with_reducible first|apply ih0|apply axz.mono|apply Yg|apply Yh|apply Yi|refine Yj ?_ fun _=>?_
theorem aGz.calls (k : Nat) (a0 : Int) (a1 : Int) (A2 : Option Addr) (c2 : Nat) (l2 : List Int) (a3 : Int) (r : List Int) (w : World) (hr2 : Kd.C (Kd.int .i64) w A2 l2.length l2) (hc2 : l2.length <= c2) (h : aGz.f k a0 a1 l2 a3 = some r) :
  Calls Tryz.prog 147 #[.int .i64 a0, .int .u32 a1, .slice A2 l2.length c2, .int .i64 a3] w fun e w'=> ∃v0_:Value,e= .returned (v0_)/\Kd.R (Kd.int .i64) 3 w' w.heap.size (fun _=>True) v0_ r/\Below w.heap.size w w':=by
 have HR2:=Za hr2;have HC2:=Za hc2;clear hr2 hc2;have HB:=Za (Zw w.heap.size w);have H:=h;clear h;unfold aGz.f at H;have H':=Za H;clear H;go_enter Tryz.func147,Tryz.ntmps147;go_wp2
 go_loopg [9,10] k (fun kq v9 v10 w'=> ∃(x9_1:List Int) (x10_1:Int),v10= .int .i64 x10_1/\Aside0 (aGz.l0 kq a0 a1 l2 a3 x9_1 x10_1=some r)/\Aside0 (kq<=k)/\Aside0 (Kd.R (Kd.int .i64) 3 w' w.heap.size (fun _=>True) v9 x9_1)/\Aside0 (Below w.heap.size w w'))
 case atStart=>exact ⟨(([] :List Int)),(0),sd_,H',⟨Zv _⟩,⟨nl_⟩,⟨bl_⟩⟩
 clear H';obtain ⟨x9_1,x10_1,rfl,HA,HK1,HO_9,HB⟩:=hrel;rcases gk with _|k1
 ·exact Yf HA.out (by simp [aGz.l0])
 have H:=HA.out;clear HA;simp only [aGz.l0] at H;by_cases c5:x10_1<(l2.length:Int)
 rotate_left
 ·rw [Yb c5] at H;have c5b0:=Ze c5;clear c5;obtain rfl:=Zn H;go_wp2;go_ret;exact ⟨_,er_,xd_ HO_9.out,bl_⟩
 rw [Ya c5] at H;have c5b0:=Zd c5;clear c5;by_cases c6:0<=x10_1
 rotate_left
 ·rw [Yb c6] at H;exact Yf H (by simp)
 rw [Ya c6] at H;have c6b0:=Zd c6;clear c6;obtain ⟨t175,A7,H⟩:=ob_ H
 (try dsimp only at H)
 by_cases c8:x9_1.length<17592186044416
 rotate_left
 ·rw [Yb c8] at H;exact Yf H (by simp)
 rw [Ya c8] at H;have LMc8:=Za c8;clear c8;obtain ⟨y176,hy176⟩: ∃y_:List Int,y_=(x9_1++ [t175]):=⟨_,rfl⟩
 first|rw [Zl, <-hy176] at H|rw [<-hy176] at H
 (try dsimp only at H)
 have Ny176:=Za hy176;clear hy176;have H':=Za H;clear H;have p174:0<=(x10_1:Int):=Zc as_;have q174:x10_1<(l2.length:Int):=Zc as_;obtain ⟨_,e174,hx174_0⟩:=Kd.bAz HR2.out x10_1 p174 q174;cases e174
 replace hx174_0:=(HB.out.cell (Zj w _ hx174_0)).trans hx174_0;replace p174:=Zz p174;replace q174:=Zz q174
 go_wp2_with (first|((with_reducible refine abz (f:=107) rfl ?_);refine gl_ (some 25) Tryz.func107 #[.int .i64 a0, .int .u32 a1, .int .i64 (rd l2 x10_1), .int .i64 a3] ?_;(with_reducible refine (axz.calls k1 a0 a1 (rd l2 x10_1) a3 t175 _ A7.out).mono ?_);rintro e w' ⟨rfl,⟨nd,rfl⟩⟩;refine ⟨_,rfl,?_⟩)|((with_reducible refine anz (b:= .append) (xs:= #[.tmp 17, .tmp 26]) rfl ?_);at_builtin;refine Kd.bxz (Kd.int .i64) (w0:=w) w.heap.size rfl (.tmp 17) (.tmp 26) 57 3 (.int .i64 0) 8 rfl Tryz.underlying57 info3 rfl (by decide) (by omega) u9 x9_1 t175 [.int .i64 t175] (fun _=>True) (fun _=>False) rfl rfl ?aP (fun _ hk=>hk.elim) ?aF ?aO ?aB ?aS ?aL ?_;(case aP=>exact rfl);(case aB=>exact bl_);(case aF=>exact (fun _ _=>trivial));(case aO=>exact (xd_ HO_9.out));(case aS=>exact (aez bl_));(case aL=>have:=LMc8.out;omega);intro v177 w9 ho hb hg hat;rw [<-Ny176.out] at ho;have n_:=Zb (Za (hb)) (Za (ho));clear HB HO_9;obtain ⟨HB,HO178⟩:=n_;clear ho hb hg hat))
 go_roundg k1
 case measure=>have:=HK1.out;omega
 case rel=>exact ⟨(y176),(wrap64 (x10_1+1)),sd_,H',⟨by have:=HK1.out;omega⟩,⟨xd_ HO178.out⟩,⟨bl_⟩⟩
def avz.l0:Nat->List Int->List Int->List Int->Int->Option (List Int)
 |0,_,_,_,_=>none
 |k+1,x0,x1,x5,x6=>if x6<(x0.length:Int) then (if 0<=x6 then (if x6<(x1.length:Int) then (if x5.length<17592186044416 then (avz.l0 k x0 x1 (x5++ [Go.bits .xor .i64 (rd x0 x6) (rd x1 x6)]) (wrap64 (x6+1))) else (none)) else (none)) else (none)) else (some x5)
def avz.f (k:Nat) (l0:List Int) (l1:List Int):Option (List Int):=avz.l0 k l0 l1 ([] :List Int) 0
theorem avz.aVz: ∀k,(∀y0 y1 y2 y3,LeO (avz.l0 k y0 y1 y2 y3) (avz.l0 (k+1) y0 y1 y2 y3))
 |0=>fun _ _ _ _ r h=>by simp [avz.l0] at h
 |k+1=>by
  have ih0:=avz.aVz k
  ·intro y0 y1 y2 y3;unfold avz.l0
   repeat' with_reducible first|apply ih0|apply Yg|apply Yh|apply Yi|refine Yj ?_ fun _=>?_
theorem avz.mono: ∀a0 a1 k,LeO (avz.f k a0 a1) (avz.f (k+1) a0 a1):=by
 intro a0 a1 k;have ih0:=avz.aVz k;unfold avz.f
 repeat' with_reducible first|apply ih0|apply Yg|apply Yh|apply Yi|refine Yj ?_ fun _=>?_
def avz.T5:Bool×List (List Nat×List Nat):=(true, [([], []),([], []),([], []),([1,2], [1,2]),([3], [3]),([], []),([], []),([5,6], [5,6]),([7], [7]),([4,8], [4,8]),([9], [9]),([0,10], [0,10]),([11,11,0,1,2,3,4,5,6,7,8,9,10,11], [0,11])])
def avz.B5:List Nat:= [0,0,0,6,14,0,0,96,224,510,1022,2047,4095]
theorem avz.tab5:rtab .any (opsOf Tryz.f148 5)=avz.T5:=by kernel_rfl
theorem avz.bits5:waitsOk avz.T5.2 avz.B5=true:=by kernel_rfl
theorem avz.calls (k : Nat) (A0 : Option Addr) (c0 : Nat) (l0 : List Int) (A1 : Option Addr) (c1 : Nat) (l1 : List Int) (r : List Int) (w : World) (hr0 : Kd.C (Kd.int .i64) w A0 l0.length l0) (hc0 : l0.length <= c0) (hr1 : Kd.C (Kd.int .i64) w A1 l1.length l1) (hc1 : l1.length <= c1) (h : avz.f k l0 l1 = some r) :
  Calls Tryz.prog 148 #[.slice A0 l0.length c0, .slice A1 l1.length c1] w fun e w'=> ∃v0_:Value,e= .returned (v0_)/\Kd.R (Kd.int .i64) 3 w' w.heap.size (fun _=>True) v0_ r/\Below w.heap.size w w':=by
 have HR0:=Za hr0;have HC0:=Za hc0;clear hr0 hc0;have HR1:=Za hr1;have HC1:=Za hc1;clear hr1 hc1;have HB:=Za (Zw w.heap.size w);have H:=h;clear h;unfold avz.f at H;have H':=Za H;clear H;go_enter Tryz.func148,Tryz.ntmps148;go_wp2
 go_loopg [5,6] k (fun kq v5 v6 w'=> ∃(x5_1:List Int) (x6_1:Int),v6= .int .i64 x6_1/\Aside0 (avz.l0 kq l0 l1 x5_1 x6_1=some r)/\Aside0 (kq<=k)/\Aside0 (Kd.R (Kd.int .i64) 3 w' w.heap.size (fun _=>True) v5 x5_1)/\Aside0 (Below w.heap.size w w'))
 case atStart=>exact ⟨(([] :List Int)),(0),sd_,H',⟨Zv _⟩,⟨nl_⟩,⟨bl_⟩⟩
 clear H';obtain ⟨x5_1,x6_1,rfl,HA,HK1,HO_5,HB⟩:=hrel;rcases gk with _|k1
 ·exact Yf HA.out (by simp [avz.l0])
 have H:=HA.out;clear HA;simp only [avz.l0] at H;by_cases c3:x6_1<(l0.length:Int)
 rotate_left
 ·rw [Yb c3] at H;have c3b0:=Ze c3;clear c3;obtain rfl:=Zn H;go_wp2;go_ret;exact ⟨_,er_,xd_ HO_5.out,bl_⟩
 rw [Ya c3] at H;have c3b0:=Zd c3;clear c3;by_cases c4:0<=x6_1
 rotate_left
 ·rw [Yb c4] at H;exact Yf H (by simp)
 rw [Ya c4] at H;have c4b0:=Zd c4;clear c4;by_cases c5:x6_1<(l1.length:Int)
 rotate_left
 ·rw [Yb c5] at H;exact Yf H (by simp)
 rw [Ya c5] at H;have c5b0:=Zd c5;clear c5;by_cases c6:x5_1.length<17592186044416
 rotate_left
 ·rw [Yb c6] at H;exact Yf H (by simp)
 rw [Ya c6] at H;have LMc6:=Za c6;clear c6;obtain ⟨y181,hy181⟩: ∃y_:List Int,y_=(x5_1++ [Go.bits .xor .i64 (rd l0 x6_1) (rd l1 x6_1)]):=⟨_,rfl⟩
 first|rw [Zl, <-hy181] at H|rw [<-hy181] at H
 (try dsimp only at H)
 have Ny181:=Za hy181;clear hy181;have H':=Za H;clear H
 try go_wp2
 have n_:=Zb (Za (Kd.c1z HO_5.out)) (Za (crz HB.out));clear HO_5 HB;obtain ⟨HO_5,HB⟩:=n_;have p179:0<=(x6_1:Int):=Zc as_;have q179:x6_1<(l0.length:Int):=Zc as_;obtain ⟨ad179,e179,hx179_0⟩:=Kd.bAz HR0.out x6_1 p179 q179;have hw179_0:=hx179_0;cases e179
 replace hx179_0:=(HB.out.cell (Zj w _ hx179_0)).trans hx179_0;replace p179:=Zz p179;replace q179:=Zz q179;have p180:0<=(x6_1:Int):=Zc as_;have q180:x6_1<(l1.length:Int):=Zc as_;obtain ⟨ad180,e180,hx180_0⟩:=Kd.bAz HR1.out x6_1 p180 q180;have hw180_0:=hx180_0;cases e180
 replace hx180_0:=(HB.out.cell (Zj w _ hx180_0)).trans hx180_0;replace p180:=Zz p180;replace q180:=Zz q180;refine clz (n:=13) (S:=fun w'=>w'.cell? (ad179.add (x6_1).toNat)=some (.int .i64 (rd l0 x6_1))/\w'.cell? (ad180.add (x6_1).toNat)=some (.int .i64 (rd l1 x6_1))) (ds:= []) (bA 13 0) kr_ rfl rfl ⟨((HB.out.cell (Zj w _ hw179_0)).trans hw179_0),((HB.out.cell (Zj w _ hw180_0)).trans hw180_0)⟩ (fun hHeld=> ?_);refine eez avz.tab5 avz.bits5 (fun HT_ HW_=> ?_);generalize wr.drew=w7 at HO_5 HB hx179_0 hx180_0 hHeld|-;refine pv_ 0 13 1 HT_ ?_;refine pv_ 1 14 3 HT_ ?_;refine pv_ 2 15 7 HT_ ?_;refine pv_ 3 16 15 HT_ ?_;refine pv_ 5 18 47 HT_ ?_;refine pv_ 6 19 111 HT_ ?_;refine pv_ 7 20 239 HT_ ?_;refine tw_ 4 17 255 HT_ HW_ hHeld ?_;refine tw_ 8 21 511 HT_ HW_ hHeld ?_;refine pv_ 9 22 1023 HT_ ?_;refine one_ (i:=10) (N:=some 23) (bA 13 2047) rfl rfl (dqz HT_.out kr_) (by decide) (fun K hK=> ?_);refine cez (w1:= ?_) (v:= ?_) (by rfl) rfl ?_ ?_
 rotate_left 2
 ·go_simp;constructor
  ·rfl
  ·rfl
 refine hK.out _ _ ⟨(World.cell?_alloc_lt _ _ _ (Zj _ _ (((HB.out.cell (Zj w _ hw179_0)).trans hw179_0)))).trans (((HB.out.cell (Zj w _ hw179_0)).trans hw179_0)),(World.cell?_alloc_lt _ _ _ (Zj _ _ (((HB.out.cell (Zj w _ hw180_0)).trans hw180_0)))).trans (((HB.out.cell (Zj w _ hw180_0)).trans hw180_0))⟩ (fun hHeld=> ?_);clear hK K;refine norm_ (a':= ?_) ?_ ?_;rotate_left
 ·show Act.put _ (some 23) _=_;simp only [Act.put,Zg,Zh,Zi,i64_w,i32_w];rfl
 refine one_ (i:=11) (N:=some 24) (bA 13 4095) rfl rfl (dqz HT_.out kr_) (by decide) (fun K hK=> ?_);refine Kd.dCz (Kd.int .i64) (w0:=w) w.heap.size (by rfl) (.tmp 13) (.tmp 23) 57 3 (.int .i64 0) 8 rfl Tryz.underlying57 info3 rfl (by decide) (by omega) u5 x5_1 (Go.bits .xor .i64 (rd l0 x6_1) (rd l1 x6_1)) [.int .i64 (Go.bits .xor .i64 (rd l0 x6_1) (rd l1 x6_1))] (fun _=>True) (fun _=>False) rfl rfl ?aP (fun _ hk=>hk.elim) ?aF ?aO ?aB ?aS ?aL ?_
 (case aP=>exact rfl)
 (case aB=>exact bl_)
 (case aF=>exact (fun _ _=>trivial))
 (case aO=>exact (xd_ HO_5.out))
 (case aS=>exact (aez bl_))
 (case aL=>have:=LMc6.out;omega)
 intro v182 w8 ho hb hg hat;rw [<-Ny181.out] at ho;have n_:=Zb (Za (hb)) (Za (ho));clear HB HO_5;obtain ⟨HB,HO183⟩:=n_;clear ho hb hg hat;refine hK.out _ _ ⟨((HB.out.cell (Zj w _ hw179_0)).trans hw179_0),((HB.out.cell (Zj w _ hw180_0)).trans hw180_0)⟩ (fun hHeld=> ?_);clear hK K;refine norm_ (a':= ?_) ?_ ?_;rotate_left
 ·show Act.put _ (some 24) _=_;simp only [Act.put,Zg,Zh,Zi,i64_w,i32_w];rfl
 refine pv_ 12 5 8191 HT_ ?_;refine done_ (done_of HT_.out kr_) ?_
 try go_wp2
 go_roundg k1
 case measure=>have:=HK1.out;omega
 case rel=>exact ⟨(y181),(wrap64 (x6_1+1)),sd_,H',⟨by have:=HK1.out;omega⟩,⟨xd_ HO183.out⟩,⟨bl_⟩⟩
mutual
def bfz.l0:Nat->Int->List Int->Int->Option (List Int)
 |0,_,_,_=>none
 |k+1,x0,x3,x4=>if x0>1 then (if x4=0 then (none) else (if (Int.tmod x0 x4)=0 then (if x3.length<17592186044416 then (bfz.j1 k x0 (x3++ [x4]) x4) else (none)) else (bfz.j1 k x0 x3 x4))) else (some x3)
def bfz.j1:Nat->Int->List Int->Int->Option (List Int)
 |0,_,_,_=>none
 |k+1,x0,x3,x4=>bfz.l1 k x0 x3 x4
def bfz.l1:Nat->Int->List Int->Int->Option (List Int)
 |0,_,_,_=>none
 |k+1,x0,x3,x4=>if x4=0 then (none) else (if (Int.tmod x0 x4)=0 then (bfz.l1 k (wrap64 (Int.tdiv x0 x4)) x3 x4) else (bfz.l0 k x0 x3 (wrap64 (x4+1))))
end
def bfz.f (k:Nat) (a0:Int):Option (List Int):=bfz.l0 k a0 ([] :List Int) 2
theorem bfz.calls (k : Nat) (a0 : Int) (r : List Int) (w : World) (h : bfz.f k a0 = some r) :
  Calls Tryz.prog 165 #[.int .i64 a0] w fun e w'=> ∃v0_:Value,e= .returned (v0_)/\Kd.R (Kd.int .i64) 3 w' w.heap.size (fun _=>True) v0_ r/\Below w.heap.size w w':=by
 have HB:=Za (Zw w.heap.size w);have H:=h;clear h;unfold bfz.f at H;have H':=Za H;clear H;go_enter Tryz.func165,Tryz.ntmps165;go_wp2
 go_loopg [0,3,4] k (fun kq v0 v3 v4 w'=> ∃(x0_1:Int) (x3_1:List Int) (x4_1:Int),v0= .int .i64 x0_1/\v4= .int .i64 x4_1/\Aside0 (bfz.l0 kq x0_1 x3_1 x4_1=some r)/\Aside0 (kq<=k)/\Aside0 (Kd.R (Kd.int .i64) 3 w' w.heap.size (fun _=>True) v3 x3_1)/\Aside0 (Below w.heap.size w w'))
 case atStart=>exact ⟨(a0),(([] :List Int)),(2),sd_,sd_,H',⟨Zv _⟩,⟨nl_⟩,⟨bl_⟩⟩
 clear H';obtain ⟨x0_1,x3_1,x4_1,rfl,rfl,HA,HK1,HO_3,HB⟩:=hrel;rcases gk with _|k1
 ·exact Yf HA.out (by simp [bfz.l0])
 have H:=HA.out;clear HA;simp only [bfz.l0] at H;by_cases c2:x0_1>1
 rotate_left
 ·rw [Yb c2] at H;have c2b0:decide (1<x0_1)=false:=Ze c2;clear c2;obtain rfl:=Zn H;go_wp2;go_ret;exact ⟨_,er_,xd_ HO_3.out,bl_⟩
 rw [Ya c2] at H;have c2b0:decide (1<x0_1)=true:=Zd c2;clear c2;by_cases c3:x4_1=0
 ·rw [Ya c3] at H;exact Yf H (by simp)
 ·rw [Yb c3] at H;have c3b0:(x4_1==0)=false:=Zq c3;have c3b1:(x4_1 !=0)=true:=Yd c3;have HC4:=Za H;clear H
  go_upto_if 12 with (fail)
  go_cut [3] (fun v3 wc=> ∃(kq:Nat) (x3_3:List Int),Aside0 (bfz.j1 kq x0_1 x3_3 x4_1=some r)/\Aside0 (kq<=k1)/\Aside0 (Kd.R (Kd.int .i64) 3 wc w.heap.size (fun _=>True) v3 x3_3)/\Aside0 (Below w.heap.size w wc))
  case first=>
   have H:=HC4.out;clear HC4;by_cases c5:(Int.tmod x0_1 x4_1)=0
   rotate_left
   ·rw [Yb c5] at H;have c5b0:((Int.tmod x0_1 x4_1)==0)=false:=Zq c5;have c5b1:((Int.tmod x0_1 x4_1) !=0)=true:=Yd c5;have H':=Za H;clear H;go_wp2
    go_meet
    case rel=>exact ⟨_,(x3_1),H',⟨by have:=HK1.out;first|omega|exact Zv _⟩,⟨xd_ HO_3.out⟩,⟨bl_⟩⟩
   rw [Ya c5] at H;have c5b0:((Int.tmod x0_1 x4_1)==0)=true:=Ye c5;have c5b1:((Int.tmod x0_1 x4_1) !=0)=false:=Yc c5;clear c5;by_cases c6:x3_1.length<17592186044416
   rotate_left
   ·rw [Yb c6] at H;exact Yf H (by simp)
   rw [Ya c6] at H;have LMc6:=Za c6;clear c6;obtain ⟨y631,hy631⟩: ∃y_:List Int,y_=(x3_1++ [x4_1]):=⟨_,rfl⟩
   first|rw [Zl, <-hy631] at H|rw [<-hy631] at H
   (try dsimp only at H)
   have Ny631:=Za hy631;clear hy631;have H':=Za H;clear H
   go_wp2_with (first|((with_reducible refine anz (b:= .append) (xs:= #[.tmp 13, .tmp 15]) rfl ?_);at_builtin;refine Kd.bxz (Kd.int .i64) (w0:=w) w.heap.size rfl (.tmp 13) (.tmp 15) 57 3 (.int .i64 0) 8 rfl Tryz.underlying57 info3 rfl (by decide) (by omega) u3 x3_1 x4_1 [.int .i64 x4_1] (fun _=>True) (fun _=>False) rfl rfl ?aP (fun _ hk=>hk.elim) ?aF ?aO ?aB ?aS ?aL ?_;(case aP=>exact rfl);(case aB=>exact bl_);(case aF=>exact (fun _ _=>trivial));(case aO=>exact (xd_ HO_3.out));(case aS=>exact (aez bl_));(case aL=>have:=LMc6.out;omega);intro v632 w7 ho hb hg hat;rw [<-Ny631.out] at ho;have n_:=Zb (Za (hb)) (Za (ho));clear HB HO_3;obtain ⟨HB,HO633⟩:=n_;clear ho hb hg hat))
   go_meet
   case rel=>exact ⟨_,(y631),H',⟨by have:=HK1.out;first|omega|exact Zv _⟩,⟨xd_ HO633.out⟩,⟨bl_⟩⟩
  case rest=>
   clear HC4;clear c2b0 c3 c3b0 c3b1;obtain ⟨kq,x3_3,HA,HJ3,HO_3,HB⟩:=hcut;rcases kq with _|kj3
   ·exact Yf HA.out (by simp [bfz.j1])
   have H:=HA.out;clear HA;simp only [bfz.j1] at H;have H':=Za H;clear H;go_wp2
   go_loopg [0] kj3 (fun kq v0 w'=> ∃(x0_3:Int),v0= .int .i64 x0_3/\Aside0 (bfz.l1 kq x0_3 x3_3 x4_1=some r)/\Aside0 (kq<=kj3)/\Aside0 (Kd.R (Kd.int .i64) 3 w' w.heap.size (fun _=>True) u3 x3_3)/\Aside0 (Below w.heap.size w w'))
   case atStart=>exact ⟨(x0_1),sd_,H',⟨Zv _⟩,⟨xd_ HO_3.out⟩,⟨bl_⟩⟩
   clear H';obtain ⟨x0_3,rfl,HA,HK3,HO_3,HB⟩:=hrel;rcases gk with _|k3
   ·exact Yf HA.out (by simp [bfz.l1])
   have H:=HA.out;clear HA;simp only [bfz.l1] at H;by_cases c8:x4_1=0
   ·rw [Ya c8] at H;exact Yf H (by simp)
   ·rw [Yb c8] at H;have c8b0:(x4_1==0)=false:=Zq c8;have c8b1:(x4_1 !=0)=true:=Yd c8;by_cases c9:(Int.tmod x0_3 x4_1)=0
    ·rw [Ya c9] at H;have c9b0:((Int.tmod x0_3 x4_1)==0)=true:=Ye c9;have c9b1:((Int.tmod x0_3 x4_1) !=0)=false:=Yc c9;clear c9;have H':=Za H;clear H;go_wp2
     go_roundg k3
     case measure=>have:=HK1.out;have:=HJ3.out;have:=HK3.out;omega
     case rel=>exact ⟨(wrap64 (Int.tdiv x0_3 x4_1)),sd_,H',⟨by have:=HK1.out;have:=HJ3.out;have:=HK3.out;omega⟩,⟨xd_ HO_3.out⟩,⟨bl_⟩⟩
    ·rw [Yb c9] at H;have c9b0:((Int.tmod x0_3 x4_1)==0)=false:=Zq c9;have c9b1:((Int.tmod x0_3 x4_1) !=0)=true:=Yd c9;have H':=Za H;clear H;go_wp2
     go_roundg k3
     case measure=>have:=HK1.out;have:=HJ3.out;have:=HK3.out;omega
     case rel=>exact ⟨(x0_3),(x3_3),(wrap64 (x4_1+1)),sd_,sd_,H',⟨by have:=HK1.out;have:=HJ3.out;have:=HK3.out;omega⟩,⟨xd_ HO_3.out⟩,⟨bl_⟩⟩
def cjz.l0:Nat->Int->Int->Int->Int->Option (Int)
 |0,_,_,_,_=>none
 |k+1,x0,x1,x2,x7=>if x1>0 then (if (Go.bits .and .i64 x1 1)=1 then ((bYz.f k x7 x0 x2).bind fun t635=>((bYz.f k x0 x0 x2).bind fun t636=>(cjz.l0 k t636 (x1 / 2) x2 t635))) else ((bYz.f k x0 x0 x2).bind fun t637=>(cjz.l0 k t637 (x1 / 2) x2 x7))) else (some x7)
def cjz.f (k:Nat) (a0:Int) (a1:Int) (a2:Int):Option (Int):=(bsz.f k 1 a2).bind fun t634=>(cjz.l0 k a0 a1 a2 t634)
theorem cjz.calls (k : Nat) (a0 : Int) (a1 : Int) (a2 : Int) (r : Int) (w : World) (h : cjz.f k a0 a1 a2 = some r) :
  Calls Tryz.prog 166 #[.int .u32 a0, .int .i64 a1, .int .u32 a2] w fun e w'=>e= .returned (.int .u32 r)/\Below w.heap.size w w':=by
 have HB:=Za (Zw w.heap.size w);have H:=h;clear h;unfold cjz.f at H;obtain ⟨t634,A4,H⟩:=ob_ H
 (try dsimp only at H)
 have H':=Za H;clear H;go_enter Tryz.func166,Tryz.ntmps166
 go_wp2_with (first|((with_reducible refine abz (f:=164) rfl ?_);refine gl_ (some 9) Tryz.func164 #[.int .u64 1, .int .u32 a2] ?_;(with_reducible refine (bsz.calls k 1 a2 t634 _ A4.out).mono ?_);rintro e w' ⟨rfl,⟨nd,rfl⟩⟩;refine ⟨_,rfl,?_⟩))
 go_loopg [0,1,7] k (fun kq v0 v1 v7 w'=> ∃(x0_1:Int) (x1_1:Int) (x7_1:Int),v0= .int .u32 x0_1/\v1= .int .i64 x1_1/\v7= .int .u32 x7_1/\Aside0 (cjz.l0 kq x0_1 x1_1 a2 x7_1=some r)/\Aside0 (kq<=k)/\Aside0 (Below w.heap.size w w'))
 case atStart=>exact ⟨(a0),(a1),(t634),sd_,sd_,sd_,H',⟨Zv _⟩,⟨bl_⟩⟩
 clear H';obtain ⟨x0_1,x1_1,x7_1,rfl,rfl,rfl,HA,HK1,HB⟩:=hrel;rcases gk with _|k1
 ·exact Yf HA.out (by simp [cjz.l0])
 have H:=HA.out;clear HA;simp only [cjz.l0] at H;by_cases c5:x1_1>0
 rotate_left
 ·rw [Yb c5] at H;have c5b0:decide (0<x1_1)=false:=Ze c5;clear c5;obtain rfl:=Zn H;go_wp2;go_ret;exact ⟨er_,bl_⟩
 rw [Ya c5] at H;have c5b0:decide (0<x1_1)=true:=Zd c5;clear c5;by_cases c6:(Go.bits .and .i64 x1_1 1)=1
 rotate_left
 ·rw [Yb c6] at H;have c6b0:((Go.bits .and .i64 x1_1 1)==1)=false:=Zq c6;have c6b1:((Go.bits .and .i64 x1_1 1) !=1)=true:=Yd c6;obtain ⟨t637,A11,H⟩:=ob_ H
  (try dsimp only at H)
  have H':=Za H;clear H
  go_wp2_with (first|((with_reducible refine abz (f:=152) rfl ?_);refine gl_ (some 24) Tryz.func152 #[.int .u32 x0_1, .int .u32 x0_1, .int .u32 a2] ?_;(with_reducible refine (bYz.calls k1 x0_1 x0_1 a2 t637 _ A11.out).mono ?_);rintro e w12 ⟨rfl,hb⟩;refine ⟨_,rfl,?_⟩;have n0_:=hs_ HB hb;clear HB;have HB:=n0_;clear n0_;(try clear hb)))
  go_roundg k1
  case measure=>have:=HK1.out;omega
  case rel=>exact ⟨(t637),(x1_1 / 2),(x7_1),sd_,sd_,sd_,H',⟨by have:=HK1.out;omega⟩,⟨bl_⟩⟩
 rw [Ya c6] at H;have c6b0:((Go.bits .and .i64 x1_1 1)==1)=true:=Ye c6;have c6b1:((Go.bits .and .i64 x1_1 1) !=1)=false:=Yc c6;clear c6;obtain ⟨t635,A7,H⟩:=ob_ H
 (try dsimp only at H)
 obtain ⟨t636,A8,H⟩:=ob_ H
 (try dsimp only at H)
 have H':=Za H;clear H
 go_wp2_with (first|((with_reducible refine abz (f:=152) rfl ?_);refine gl_ (some 20) Tryz.func152 #[.int .u32 x7_1, .int .u32 x0_1, .int .u32 a2] ?_;(with_reducible refine (bYz.calls k1 x7_1 x0_1 a2 t635 _ A7.out).mono ?_);rintro e w9 ⟨rfl,hb⟩;refine ⟨_,rfl,?_⟩;have n0_:=hs_ HB hb;clear HB;have HB:=n0_;clear n0_;(try clear hb))|((with_reducible refine abz (f:=152) rfl ?_);refine gl_ (some 24) Tryz.func152 #[.int .u32 x0_1, .int .u32 x0_1, .int .u32 a2] ?_;(with_reducible refine (bYz.calls k1 x0_1 x0_1 a2 t636 _ A8.out).mono ?_);rintro e w10 ⟨rfl,hb⟩;refine ⟨_,rfl,?_⟩;have n0_:=hs_ HB hb;clear HB;have HB:=n0_;clear n0_;(try clear hb)))
 go_roundg k1
 case measure=>have:=HK1.out;omega
 case rel=>exact ⟨(t636),(x1_1 / 2),(t635),sd_,sd_,sd_,H',⟨by have:=HK1.out;omega⟩,⟨bl_⟩⟩
mutual
def boz.j0:Nat->Int->Bool->Option (Bool)
 |0,_,_=>none
 |k+1,x0,x13=>if x13=true then (some false) else ((cgz.f (IntKind.u64.wrap (x0))).bind fun t640=>(if 0<=t640 then ((bfz.f k (wrap64 ((shl .i64 1 t640) - 1))).bind fun t641=>(boz.l0 k x0 (wrap64 ((shl .i64 1 t640) - 1)) t641 (t641.length:Int) 0)) else (none)))
def boz.l0:Nat->Int->Int->List Int->Int->Int->Option (Bool)
 |0,_,_,_,_,_=>none
 |k+1,x0,x3,x20,x21,x22=>if x22<x21 then (if 0<=x22 then (if x22<(x20.length:Int) then (if (rd x20 x22)=0 then (none) else ((cjz.f k 2 (wrap64 (Int.tdiv x3 (rd x20 x22))) x0).bind fun t645=>(if t645=1 then (some false) else (boz.l0 k x0 x3 x20 x21 (wrap64 (x22+1)))))) else (none)) else (none)) else (some true)
end
def boz.f (k:Nat) (a0:Int):Option (Bool):=(bhz.f k a0).bind fun t638=>(if t638=true then ((bsz.f k 2 a0).bind fun t639=>(boz.j0 k a0 (t639==0))) else (boz.j0 k a0 true))
theorem boz.calls (k : Nat) (a0 : Int) (r : Bool) (w : World) (h : boz.f k a0 = some r) :
  Calls Tryz.prog 125 #[.int .u32 a0] w fun e w'=>e= .returned (.bool r)/\Below w.heap.size w w':=by
 have HB:=Za (Zw w.heap.size w);have H:=h;clear h;unfold boz.f at H;have HC2:=Za H;clear H;go_enter Tryz.func125,Tryz.ntmps125
 go_upto_region 1 with (fail)
 go_cut [13] (fun v13 wc=> ∃(kq:Nat) (x13_1:Bool),v13= .bool x13_1/\Aside0 (boz.j0 kq a0 x13_1=some r)/\Aside0 (kq<=k)/\Aside0 (Below w.heap.size w wc))
 case first=>
  have H:=HC2.out;clear HC2;obtain ⟨t638,A3,H⟩:=ob_ H
  (try dsimp only at H)
  by_cases c4:t638=true
  ·subst c4;rw [Ya rfl] at H;obtain ⟨t639,A5,H⟩:=ob_ H
   (try dsimp only at H)
   have H':=Za H;clear H
   go_wp2_with (first|((with_reducible refine abz (f:=163) rfl ?_);refine gl_ (some 7) Tryz.func163 #[.int .u32 a0] ?_;(with_reducible refine (bhz.calls k a0 true _ A3.out).mono ?_);rintro e w6 ⟨rfl,hb⟩;refine ⟨_,rfl,?_⟩;have n0_:=hs_ HB hb;clear HB;have HB:=n0_;clear n0_;(try clear hb))|(go_at_call 164;(with_reducible refine (bsz.calls k 2 a0 t639 _ A5.out).mono ?_);rintro e w' ⟨rfl,⟨nd,rfl⟩⟩))
   go_meet
   case rel=>exact ⟨_,((t639==0)),sd_,H',⟨by first|omega|exact Zv _⟩,⟨bl_⟩⟩
  ·replace c4:=Zr c4;subst c4;rw [Yb (show¬(false=true) by decide)] at H;have H':=Za H;clear H
   go_wp2_with (first|((with_reducible refine abz (f:=163) rfl ?_);refine gl_ (some 7) Tryz.func163 #[.int .u32 a0] ?_;(with_reducible refine (bhz.calls k a0 false _ A3.out).mono ?_);rintro e w7 ⟨rfl,hb⟩;refine ⟨_,rfl,?_⟩;have n0_:=hs_ HB hb;clear HB;have HB:=n0_;clear n0_;(try clear hb)))
   go_meet
   case rel=>exact ⟨_,(true),sd_,H',⟨by first|omega|exact Zv _⟩,⟨bl_⟩⟩
 case rest=>
  clear HC2;obtain ⟨kq,x13_1,rfl,HA,HJ1,HB⟩:=hcut;rcases kq with _|kj1
  ·exact Yf HA.out (by simp [boz.j0])
  have H:=HA.out;clear HA;simp only [boz.j0] at H;by_cases c8:x13_1=true
  ·subst c8;rw [Ya rfl] at H;obtain rfl:=Zn H;go_wp2;go_ret;exact ⟨er_,bl_⟩
  ·replace c8:=Zr c8;subst c8;rw [Yb (show¬(false=true) by decide)] at H;obtain ⟨t640,A9,H⟩:=ob_ H
   (try dsimp only at H)
   by_cases c10:0<=t640
   rotate_left
   ·rw [Yb c10] at H;exact Yf H (by simp)
   rw [Ya c10] at H;have c10b0:=Zz c10;have c10b1:=Zd c10;clear c10;obtain ⟨ji11,hji11⟩: ∃j_:Int,(shl .i64 1 t640)=j_:=⟨_,rfl⟩
   replace H:((bfz.f kj1 (wrap64 ((ji11) - 1))).bind fun t641=>(boz.l0 kj1 a0 (wrap64 ((ji11) - 1)) t641 (t641.length:Int) 0))=some r:=by first|(rw [hji11] at H;exact H)|(simp only [hji11] at H|-;exact H)
   (try rw [hji11] at A9)
   have hji11_:(IntKind.i64.wrap (1*2^min t640.toNat 64))=ji11:=hji11;have hji11z:t640<=64->(IntKind.i64.wrap (1*2^t640.toNat))=ji11:=shl_small hji11;have hji11u:(IntKind.i64.wrap (2^min t640.toNat 64))=ji11:=by have h_:=hji11_;rw [Int.one_mul] at h_;exact h_
   have hji11v:t640<=64->(IntKind.i64.wrap (2^t640.toNat))=ji11:=fun hle_=>by have h_:=hji11z hle_;rw [Int.one_mul] at h_;exact h_
   have hji11y:(wrap64 (1*2^min t640.toNat 64))=ji11:=(i64_w _).symm.trans hji11_;have hji11x:t640<=64->(wrap64 (1*2^t640.toNat))=ji11:=fun h_=>(i64_w _).symm.trans (hji11z h_)
   obtain ⟨t641,A12,H⟩:=ob_ H
   (try dsimp only at H)
   have H':=Za H;clear H
   go_wp2_with (first|((with_reducible refine abz (f:=124) rfl ?_);refine gl_ (some 16) Tryz.func124 #[.int .u64 (IntKind.u64.wrap (a0))] ?_;(with_reducible refine (cgz.calls (IntKind.u64.wrap (a0)) t640 _ A9.out).mono ?_);rintro e w' ⟨rfl,⟨nd,rfl⟩⟩;refine ⟨_,rfl,?_⟩)|((with_reducible refine abz (f:=165) rfl ?_);refine goesL_ (some 20) rfl rfl Tryz.func165 kr_ rfl #[.int .i64 (wrap64 ((ji11) - 1))] rfl (by (try simp only [List.map_toArray,List.map_cons,List.map_nil]);first|done|(simp only [hji11];rfl)|rfl|(simp only [List.length_drop,List.length_take];rfl)) ?_;(with_reducible refine (bfz.calls kj1 (wrap64 ((ji11) - 1)) t641 _ A12.out).mono ?_);rintro e w13 ⟨v642,rfl,ho0,hb⟩;refine ⟨_,rfl,?_⟩;have n_:=Zb (Za (Kd.bDz ho0 (aez bl_))) (hs_ HB hb);clear HB;obtain ⟨HO643,HB⟩:=n_;clear hb ho0;obtain ⟨Ao14,co14,eo14⟩:=Kd.aRz HO643.out;subst eo14))
   go_loopg [22] kj1 (fun kq v22 w'=> ∃(x22_2:Int),v22= .int .i64 x22_2/\Aside0 (boz.l0 kq a0 (wrap64 ((ji11) - 1)) t641 (t641.length:Int) x22_2=some r)/\Aside0 (kq<=kj1)/\Aside0 (Kd.R (Kd.int .i64) 3 w' w.heap.size (fun _=>True) (.slice Ao14 t641.length co14) t641)/\Aside0 (Below w.heap.size w w'))
   case atStart=>exact ⟨(0),sd_,H',⟨Zv _⟩,⟨xd_ HO643.out⟩,⟨bl_⟩⟩
   clear H';clear c10b0 c10b1;obtain ⟨x22_2,rfl,HA,HK2,HO_20,HB⟩:=hrel;rcases gk with _|k2
   ·exact Yf HA.out (by simp [boz.l0])
   have H:=HA.out;clear HA;simp only [boz.l0] at H;by_cases c15:x22_2<(t641.length:Int)
   rotate_left
   ·rw [Yb c15] at H;have c15b0:=Ze c15;clear c15;obtain rfl:=Zn H;go_wp2;go_ret;exact ⟨by first|rfl|(simp [cMz,cNz] <;>rfl)|(simp only [<-hji11];first|rfl|(simp [cMz,cNz] <;>rfl))|(simp [*,cMz,cNz] <;>rfl),bl_⟩
   rw [Ya c15] at H;have c15b0:=Zd c15;clear c15;by_cases c16:0<=x22_2
   rotate_left
   ·rw [Yb c16] at H;exact Yf H (by simp)
   rw [Ya c16] at H;have c16b0:=Zd c16;clear c16;by_cases c17:x22_2<(t641.length:Int)
   rotate_left
   ·rw [Yb c17] at H;exact Yf H (by simp)
   rw [Ya c17] at H;have c17b0:=Zd c17;clear c17;by_cases c18:(rd t641 x22_2)=0
   ·rw [Ya c18] at H;exact Yf H (by simp)
   ·rw [Yb c18] at H;have c18b0:((rd t641 x22_2)==0)=false:=Zq c18;have c18b1:((rd t641 x22_2) !=0)=true:=Yd c18;obtain ⟨t645,A19,H⟩:=ob_ H
    (try dsimp only at H)
    by_cases c20:t645=1
    ·rw [Ya c20] at H;have c20b0:(t645==1)=true:=Ye c20;have c20b1:(t645 !=1)=false:=Yc c20;clear c20;obtain rfl:=Zn H;have p644:0<=(x22_2:Int):=Zc as_;have q644:x22_2<(t641.length:Int):=Zc as_;obtain ⟨_,e644,hx644_0⟩:=Kd.bAz (Kd.aNz HO_20.out).2.2 x22_2 p644 q644;cases e644
     replace p644:=Zz p644;replace q644:=Zz q644
     go_wp2_with (first|((with_reducible refine abz (f:=166) rfl ?_);refine goesL_ (some 30) rfl rfl Tryz.func166 kr_ rfl #[.int .u32 2, .int .i64 (wrap64 (Int.tdiv (wrap64 ((ji11) - 1)) (rd t641 x22_2))), .int .u32 a0] rfl (by (try simp only [List.map_toArray,List.map_cons,List.map_nil]);first|done|(simp only [hji11];rfl)|rfl|(simp only [List.length_drop,List.length_take];rfl)) ?_;(with_reducible refine (cjz.calls k2 2 (wrap64 (Int.tdiv (wrap64 ((ji11) - 1)) (rd t641 x22_2))) a0 t645 _ A19.out).mono ?_);rintro e w21 ⟨rfl,hb⟩;refine ⟨_,rfl,?_⟩;have n_:=Zb (Za (Kd.cDz (xd_ HO_20.out) hb)) (hs_ HB hb);clear HO_20 HB;obtain ⟨HO_20,HB⟩:=n_;(try clear hb)))
     go_ret;exact ⟨by first|rfl|(simp [cMz,cNz] <;>rfl)|(simp only [<-hji11];first|rfl|(simp [cMz,cNz] <;>rfl))|(simp [*,cMz,cNz] <;>rfl),bl_⟩
    ·rw [Yb c20] at H;have c20b0:(t645==1)=false:=Zq c20;have c20b1:(t645 !=1)=true:=Yd c20;have H':=Za H;clear H;have p644:0<=(x22_2:Int):=Zc as_;have q644:x22_2<(t641.length:Int):=Zc as_;obtain ⟨_,e644,hx644_0⟩:=Kd.bAz (Kd.aNz HO_20.out).2.2 x22_2 p644 q644;cases e644
     replace p644:=Zz p644;replace q644:=Zz q644
     go_wp2_with (first|((with_reducible refine abz (f:=166) rfl ?_);refine goesL_ (some 30) rfl rfl Tryz.func166 kr_ rfl #[.int .u32 2, .int .i64 (wrap64 (Int.tdiv (wrap64 ((ji11) - 1)) (rd t641 x22_2))), .int .u32 a0] rfl (by (try simp only [List.map_toArray,List.map_cons,List.map_nil]);first|done|(simp only [hji11];rfl)|rfl|(simp only [List.length_drop,List.length_take];rfl)) ?_;(with_reducible refine (cjz.calls k2 2 (wrap64 (Int.tdiv (wrap64 ((ji11) - 1)) (rd t641 x22_2))) a0 t645 _ A19.out).mono ?_);rintro e w22 ⟨rfl,hb⟩;refine ⟨_,rfl,?_⟩;have n_:=Zb (Za (Kd.cDz (xd_ HO_20.out) hb)) (hs_ HB hb);clear HO_20 HB;obtain ⟨HO_20,HB⟩:=n_;(try clear hb)))
     (first|go_roundg k2|(subst hji11;go_roundg k2))
     case measure=>have:=HJ1.out;have:=HK2.out;omega
     case rel=>exact ⟨(wrap64 (x22_2+1)),sd_,H',⟨by have:=HJ1.out;have:=HK2.out;omega⟩,⟨xd_ HO_20.out⟩,⟨bl_⟩⟩
def byz.f (a0:Int):Option (Bool):=if a0>=1 then (some (decide (a0<=20))) else (some false)
theorem byz.calls (a0 : Int) (r : Bool) (w : World) (h : byz.f a0 = some r) :
  Calls Tryz.prog 139 #[.int .i64 a0] w fun e w'=>e= .returned (.bool r)/\Drawn0 w w':=by
 have H:=h;clear h;unfold byz.f at H;by_cases c2:a0>=1
 ·rw [Ya c2] at H;have c2b0:decide (1<=a0)=true:=Zd c2;clear c2;obtain rfl:=Zn H;go_enter Tryz.func139,Tryz.ntmps139;go_wp2;go_ret;exact ⟨sd_,dn_⟩
 ·rw [Yb c2] at H;have c2b0:decide (1<=a0)=false:=Ze c2;clear c2;obtain rfl:=Zn H;go_enter Tryz.func139,Tryz.ntmps139;go_wp2;go_ret;exact ⟨sd_,dn_⟩
def b2z.l0:Nat->Int->List (List Int)->Int->Int->Option ((List (List Int)))
 |0,_,_,_,_=>none
 |k+1,x0,x3,x9,x10=>if x10<x9 then (if 0<=x0 then (if (x0:Int).toNat<=35184372088832 then ((some (List.replicate (x0:Int).toNat 0:List Int)).bind fun y647=>(if 0<=x10 then (if x10<(y647.length:Int) then (if x3.length<5864062014805 then (b2z.l0 k x0 (x3++ [(y647.set (x10:Int).toNat 1)]) x9 (wrap64 (x10+1))) else (none)) else (none)) else (none))) else (none)) else (none)) else (some x3)
def b2z.f (k:Nat) (a0:Int):Option ((List (List Int))):=(byz.f a0).bind fun t646=>(if t646=true then (b2z.l0 k a0 ([] :List (List Int)) a0 0) else (some ([] :List (List Int))))
theorem b2z.calls (k : Nat) (a0 : Int) (r : List (List Int)) (w : World) (h : b2z.f k a0 = some r) :
  Calls Tryz.prog 95 #[.int .i64 a0] w fun e w'=> ∃v0_:Value,e= .returned (v0_)/\Kd.S (Kd.slice 3 (Kd.int .i64)) 57 w' w.heap.size (fun _=>True) v0_ r/\Below w.heap.size w w':=by
 have HB:=Za (Zw w.heap.size w);have H:=h;clear h;unfold b2z.f at H;obtain ⟨t646,A2,H⟩:=ob_ H
 (try dsimp only at H)
 by_cases c3:t646=true
 rotate_left
 ·replace c3:=Zr c3;subst c3;rw [Yb (show¬(false=true) by decide)] at H;obtain rfl:=Zn H;go_enter Tryz.func95,Tryz.ntmps95
  go_wp2_with (first|((with_reducible refine abz (f:=139) rfl ?_);refine gl_ (some 7) Tryz.func139 #[.int .i64 a0] ?_;(with_reducible refine (byz.calls a0 false _ A2.out).mono ?_);rintro e w' ⟨rfl,⟨nd,rfl⟩⟩;refine ⟨_,rfl,?_⟩))
  go_ret;exact ⟨_,er_,nl_,bl_⟩
 subst c3;rw [Ya rfl] at H;have H':=Za H;clear H;go_enter Tryz.func95,Tryz.ntmps95
 go_wp2_with (first|((with_reducible refine abz (f:=139) rfl ?_);refine gl_ (some 7) Tryz.func139 #[.int .i64 a0] ?_;(with_reducible refine (byz.calls a0 true _ A2.out).mono ?_);rintro e w' ⟨rfl,⟨nd,rfl⟩⟩;refine ⟨_,rfl,?_⟩))
 go_loopg [3,10] k (fun kq v3 v10 w'=> ∃(x3_1:List (List Int)) (x10_1:Int),v10= .int .i64 x10_1/\Aside0 (b2z.l0 kq a0 x3_1 a0 x10_1=some r)/\Aside0 (kq<=k)/\Aside0 (Kd.S (Kd.slice 3 (Kd.int .i64)) 57 w' w.heap.size (fun _=>True) v3 x3_1)/\Aside0 (Below w.heap.size w w'))
 case atStart=>exact ⟨(([] :List (List Int))),(0),sd_,H',⟨Zv _⟩,⟨nl_⟩,⟨bl_⟩⟩
 clear H';obtain ⟨x3_1,x10_1,rfl,HA,HK1,HO_3,HB⟩:=hrel;rcases gk with _|k1
 ·exact Yf HA.out (by simp [b2z.l0])
 have H:=HA.out;clear HA;simp only [b2z.l0] at H;by_cases c4:x10_1<a0
 rotate_left
 ·rw [Yb c4] at H;have c4b0:=Ze c4;clear c4;obtain rfl:=Zn H;go_wp2;go_ret;exact ⟨_,er_,xd_ HO_3.out,bl_⟩
 rw [Ya c4] at H;have c4b0:=Zd c4;clear c4;by_cases c5:0<=a0
 rotate_left
 ·rw [Yb c5] at H;exact Yf H (by simp)
 rw [Ya c5] at H;have c5b0:=Zz c5;have c5b1:=Zd c5;clear c5;by_cases c6:(a0:Int).toNat<=35184372088832
 rotate_left
 ·rw [Yb c6] at H;exact Yf H (by simp)
 rw [Ya c6] at H;have c6b0:=Zz c6;have c6b1:=Zd c6;clear c6;obtain ⟨y647,hy647⟩: ∃y_:List Int,y_=(List.replicate (a0:Int).toNat 0):=⟨_,rfl⟩
 first|rw [Zl, <-hy647] at H|rw [<-hy647] at H
 (try dsimp only at H)
 have Ny647:=Za hy647;clear hy647;by_cases c7:0<=x10_1
 rotate_left
 ·rw [Yb c7] at H;exact Yf H (by simp)
 rw [Ya c7] at H;have c7b0:=Zd c7;clear c7;by_cases c8:x10_1<(y647.length:Int)
 rotate_left
 ·rw [Yb c8] at H;exact Yf H (by simp)
 rw [Ya c8] at H;have c8b0:=Zd c8;clear c8;obtain ⟨y650,hy650⟩: ∃y_:List Int,y_=(y647.set (x10_1:Int).toNat 1):=⟨_,rfl⟩
 first|rw [Zl, <-hy650] at H|rw [<-hy650] at H
 (try dsimp only at H)
 have Ny650:=Za hy650;clear hy650;by_cases c10:x3_1.length<5864062014805
 rotate_left
 ·rw [Yb c10] at H;exact Yf H (by simp)
 rw [Ya c10] at H;have LMc10:=Za c10;clear c10;obtain ⟨y651,hy651⟩: ∃y_:List (List Int),y_=(x3_1++ [y650]):=⟨_,rfl⟩
 first|rw [Zl, <-hy651] at H|rw [<-hy651] at H
 (try dsimp only at H)
 have Ny651:=Za hy651;clear hy651;have H':=Za H;clear H
 go_wp2_with (first|((with_reducible refine blz (N:=14) rfl ?_);refine Kd.R_make (Kd.int .i64) _ 3 rfl (N:=14) rfl 57 _ _ rfl a0 rfl rfl Tryz.underlying57 (.int .i64 0) 8 info3 rfl (by decide) (by omega) 0 (ok:=fun _=>True) (okp:=fun _=>True) rfl (fun _ hk=>hk) trivial (Zc as_) (Zt (Nat.mul_le_mul_right _ (Zc as_:a0.toNat<=35184372088832)) (by omega)) (Zw _ _) (Zv _) ?_;intro v648 w11 ho12 hb hg_ hnew_;clear hg_ hnew_;(first|rw [<-Ny647.out] at ho12|(simp only [Int.reduceToNat] at ho12;rw [<-Ny647.out] at ho12));have n_:=Zb (Za (Kd.S_elder' (xd_ HO_3.out) (Kd.bIz ho12) hb)) (Zb (Za (Kd.bDz ho12 (aez bl_))) (hs_ HB hb));clear HO_3 HB;obtain ⟨HO_3,HO649,HB⟩:=n_;clear hb ho12;have p9:0<=(x10_1:Int):=Zc as_;have q9:(x10_1:Int)<((y647.length:Int):Int):=Zc as_;obtain ⟨go9,co9,eo9,gb9,gl9,cl9,HG9⟩:=Kd.R_form HO649.out (by omega);(first|cases eo9|(injection eo9 with ea_ en_ ec_;(first|subst ea_|(injection ea_ with ea_;subst ea_));subst ec_;clear en_));have GB9:=Za gb9;have GG9:=Za HG9;clear gb9 gl9 HG9;obtain ⟨hx9_0,hf9_0⟩:=Kd.R_celln 0 HO649.out (x10_1:Int) p9 q9;replace p9:=Zz p9;replace q9:=Zz q9;obtain ⟨hy13_,hz13_⟩:=Kd.R_celln 0 HO649.out (x10_1:Int) (Zc as_) (Zc as_);have HP13:=Kd.R_putg HO649.out (x10_1:Int) 1)|((with_reducible refine c9z (t:=3) (p:=17) rfl ?_);refine dnz (t:=3) (p:=17) (v:= ?vo_w14) (w1:=(w11.setCell ⟨go9,(x10_1:Int).toNat,none⟩ (.int .i64 1))) ?hg ?ho ?hn ?hr ?_;(case ho=>rfl);(case hg=>rfl);(case hn=>rfl);(case hr=>first|(go_simp;done)|(go_simp;rfl));intro w14 hw;have hg:w11.grownBy w14 (some go9):=(by rw [hw];exact HP13.2);have hp_:Kd.R (Kd.int .i64) 3 w14 w.heap.size (fun _=>True) (.slice (some ⟨go9,0,none⟩) y647.length co9) y650:=(by rw [hw,Ny650.out];exact HP13.1);clear HP13;have n_:=Zb (Za (Kd.cYz (v:=(.slice (some ⟨go9,0,none⟩) y647.length co9)) (v1:=(.slice (some ⟨go9,0,none⟩) y647.length co9)) (ok:=(fun _=>True)) (xd_ HO_3.out) hg (.inl rfl))) (Zb (Za (hp_)) (Za ((by rw [hw];exact dfz (HB.out) GB9.out:Below w.heap.size w w14))));clear HO_3 HO649 HB;obtain ⟨HO_3,HO649,HB⟩:=n_;clear hg hw hp_)|((with_reducible refine anz (b:= .append) (xs:= #[.tmp 18, .tmp 20]) rfl ?_);at_builtin;refine Kd.bLz (Kd.slice 3 (Kd.int .i64)) (w0:=w) w.heap.size rfl (.tmp 18) (.tmp 20) 69 57 (.slice none 0 0) 24 rfl Tryz.underlying69 info57 rfl (by decide) (by omega) u3 x3_1 y650 [.slice (some ⟨go9,0,none⟩) y647.length co9] (fun _=>True) (fun k_=>some k_=(.slice (some ⟨go9,0,none⟩) y647.length co9:Value).ownBlock) rfl rfl ?aP (fun k_ hk_=>((Kd.aJz (ok':=fun k_=>((fun _=>True)) k_/\some k_≠(u3:Value).ownBlock) (Kd.brz (HO649.out) (Kd.bNz HO_3.out) (by decide)) (fun k_ hk=>⟨trivial,hk.2⟩))).1 k_ hk_.symm) ?aF ?aO ?aB ?aS ?aL ?_;(case aP=>exact Kd.M_row (Kd.aJz (Kd.ciz rfl (Kd.aJz (ok':=fun k_=>((fun _=>True)) k_/\some k_≠(u3:Value).ownBlock) (Kd.brz (HO649.out) (Kd.bNz HO_3.out) (by decide)) (fun k_ hk=>⟨trivial,hk.2⟩))) (fun _ h_=>h_)));(case aB=>exact bl_);(case aF=>exact (fun _ _=>trivial));(case aO=>exact (sm_ HO_3));(case aS=>exact (aez bl_));(case aL=>have:=LMc10.out;omega);intro v652 w15 ho hb hg hat;rw [<-Ny651.out] at ho;have n_:=Zb (Za (hb)) (Za (ho));clear HB HO_3 HO649;obtain ⟨HB,HO653⟩:=n_;clear ho hb hg hat))
 go_roundg k1
 case measure=>have:=HK1.out;omega
 case rel=>exact ⟨(y651),(wrap64 (x10_1+1)),sd_,H',⟨by have:=HK1.out;omega⟩,⟨xd_ HO653.out⟩,⟨bl_⟩⟩
theorem gpN_step: ∀i,i<255->bYz.f 40 (gpN i:Int) 2 285=some (gpN (i+1):Int):=by decide+kernel
theorem gf_Size0 (g : Nat) (wb : Int) (W : World) (hc : W.cell? ⟨g, 0, none⟩ = some (.int .i64 wb)) (hw : wb = 8 \/ wb = 16) :
  Calls Tryz.prog 150 #[.pointer (some ⟨g,0,none⟩)] W fun e w'=>e= .returned (.int .i64 (fsize wb))/\Drawn0 W w':=by
 rcases hw with rfl|rfl
 all_goals
  go_enter Tryz.func150,Tryz.ntmps150;go_wp2;go_ret;exact ⟨by simp [fsize],Drawn0.refl _⟩
theorem gf_Size8 (g : Nat) (W : World) (hc : W.cell? ⟨g, 0, none⟩ = some (.int .i64 8)) :
  Calls Tryz.prog 150 #[.pointer (some ⟨g,0,none⟩)] W fun e w'=>e= .returned (.int .i64 256)/\Drawn0 W w':=gf_Size0 g 8 W hc (.inl rfl)
theorem make256 (W:World):(Instr.makeSlice 57 (.int .i64 256) (.int .i64 256)).run Tryz.prog W= .ok (.slice (some ⟨W.heap.size,0,none⟩) 256 256) (W.alloc (.cells (nums .i64 (expAt 0)).toArray 3)):=by
 obtain ⟨i,hi,he⟩:=Option.map_eq_some_iff.1 info3;injection he with hz he
 injection he with hs hb
 have h:=run_make (P:=Tryz.prog) W 57 3 i (.int .i64 0) Tryz.underlying57 hi hz .i64 .i64 256 256 (by omega) (by omega) (by rw [hb];omega) (by omega);rw [hs,show madeCells (Value.int .i64 0).cells ((256:Int).toNat*1)=(nums .i64 (expAt 0)).toArray from by kernel_rfl] at h;exact h
def RS (pl g:Nat) (W:World):Prop:=W.cell? ⟨pl,0,none⟩=some (.pointer (some ⟨g,0,none⟩))/\W.cell? ⟨g,0,none⟩=some (.int .i64 8)
theorem RS.of {pl g:Nat} {W:World} (h1:W.cell? ⟨pl,0,none⟩=some (.pointer (some ⟨g,0,none⟩))) (h2:W.cell? ⟨g,0,none⟩=some (.int .i64 8)):RS pl g W:=⟨h1,h2⟩
theorem RS.alloc {pl g:Nat} {W:World} (h:RS pl g W) (o:Obj):RS pl g (W.alloc o):=
 ⟨(World.cell?_alloc_past _ _ _ (Zj _ _ h.1)).trans h.1,(World.cell?_alloc_past _ _ _ (Zj _ _ h.2)).trans h.2⟩
theorem RS.drew {pl g:Nat} {W:World} (h:RS pl g W):RS pl g W.drew:=h
theorem RS.drewN {pl g:Nat} {W:World} (h:RS pl g W) (n:Nat):RS pl g (W.drewN n):=h
theorem RS.set {pl g:Nat} {W:World} (hne:g≠pl) (h:RS pl g W) (j:Nat) (hj:j≠0) (u:Value):RS pl g (W.setCell ⟨g,j,none⟩ u):=
 ⟨(World.cell?_setCell_other _ ⟨g,j,none⟩ ⟨pl,0,none⟩ _ (fun e=>hne (congrArg Addr.block e))).trans h.1,(World.cell?_setCell_other _ ⟨g,j,none⟩ ⟨g,0,none⟩ _ (fun e=>hj (congrArg Addr.off e))).trans h.2⟩
def R1 (W:World) (g pl:Nat) (d st se:Value) (w:World):Prop:= ∃a b:Nat,
 (∃cs,w.heap[g]?=some (.cells cs 172 (0,0))/\cs= #[.int .i64 8, .int .u32 285,d,st,se, .slice (some ⟨a,0,none⟩) 256 256, .slice (some ⟨b,0,none⟩) 256 256])/\
 w.heap[a]?=some (.cells (nums .i64 (expAt 0)).toArray 3 (0,0))/\w.heap[b]?=some (.cells (nums .i64 (expAt 0)).toArray 3 (0,0))/\w.heap[pl]?=some (.cells #[.pointer (some ⟨g,0,none⟩)] 72 (0,0))/\
 W.heap.size<=a/\W.heap.size<=b/\a≠b/\BB W w g
theorem R1.of {W w : World} {g pl a b : Nat} {d st se : Value} (h1 : ∃ cs, w.heap[g]? = some (.cells cs 172 (0, 0)) /\ cs = #[.int .i64 8, .int .u32 285, d, st, se, .slice (some ⟨a, 0, none⟩) 256 256, .slice (some ⟨b, 0, none⟩) 256 256])
  (h3:w.heap[a]?=some (.cells (nums .i64 (expAt 0)).toArray 3 (0,0))) (h4:w.heap[b]?=some (.cells (nums .i64 (expAt 0)).toArray 3 (0,0))) (h5:w.heap[pl]?=some (.cells #[.pointer (some ⟨g,0,none⟩)] 72 (0,0)))
  (h6:W.heap.size<=a) (h7:W.heap.size<=b) (h8:a≠b) (h9:BB W w g):R1 W g pl d st se w:=⟨a,b,h1,h3,h4,h5,h6,h7,h8,h9⟩
theorem bBz (w:World) (o:Obj) (n:Nat) (h:n=w.heap.size):(w.alloc o).heap[n]?=some o:=by rw [h];exact b7z w o
structure RL (W:World) (g pl:Nat) (d st se:Value) (a b k:Nat) (w:World):Prop where
 h1:w.heap[g]?=some (.cells #[.int .i64 8, .int .u32 285,d,st,se, .slice (some ⟨a,0,none⟩) 256 256, .slice (some ⟨b,0,none⟩) 256 256] 172 (0,0))
 h2:w.heap[a]?=some (.cells (nums .i64 (expAt k)).toArray 3 (0,0))
 h3:w.heap[b]?=some (.cells (nums .i64 (logAt k)).toArray 3 (0,0))
 h4:w.heap[pl]?=some (.cells #[.pointer (some ⟨g,0,none⟩)] 72 (0,0))
 h9:BB W w g
theorem RL.of {W w : World} {g pl a b : Nat} {d st se : Value} (h1 : w.heap[g]? = some (.cells #[.int .i64 8, .int .u32 285, d, st, se, .slice (some ⟨a, 0, none⟩) 256 256, .slice (some ⟨b, 0, none⟩) 256 256] 172 (0, 0)))
  (h2:w.heap[a]?=some (.cells (nums .i64 (expAt 0)).toArray 3 (0,0))) (h3:w.heap[b]?=some (.cells (nums .i64 (expAt 0)).toArray 3 (0,0))) (h4:w.heap[pl]?=some (.cells #[.pointer (some ⟨g,0,none⟩)] 72 (0,0))) (h9:BB W w g):RL W g pl d st se a b 0 w:=⟨h1,h2,h3,h4,h9⟩
theorem RL.drewN {W w:World} {g pl a b k:Nat} {d st se:Value} (h:RL W g pl d st se a b k w) (n:Nat):RL W g pl d st se a b k (w.drewN n):=⟨h.h1,h.h2,h.h3,h.h4,h.h9.drewN n⟩
theorem nums_cell {w:World} {g:Nat} {t:TypeId} {xs:List Int} (h:w.heap[g]?=some (.cells (nums .i64 xs).toArray t (0,0))) (j:Nat) (hj:j<xs.length): ∃z,w.cell? ⟨g,j,none⟩=some (.int .i64 z):=
 ⟨xs[j],(aaz h j).trans (by simp [nums,hj])⟩
theorem dHz {w:World} {g:Nat} {t:TypeId} {xs ys:List Int} (h:w.heap[g]?=some (.cells (nums .i64 xs).toArray t (0,0))) (j:Nat) (z:Int) (e:xs.set j z=ys):(w.setCell ⟨g,j,none⟩ (.int .i64 z)).heap[g]?=some (.cells (nums .i64 ys).toArray t (0,0)):=
 cqz h j _ (by subst e;simp [nums,List.map_set])
def RS3 (pl g a b:Nat) (W':World):Prop:=W'.cell? ⟨pl,0,none⟩=some (.pointer (some ⟨g,0,none⟩))/\W'.cell? ⟨g,5,none⟩=some (.slice (some ⟨a,0,none⟩) 256 256)/\W'.cell? ⟨g,6,none⟩=some (.slice (some ⟨b,0,none⟩) 256 256)
theorem RS3.drew {pl g a b:Nat} {W:World} (h:RS3 pl g a b W):RS3 pl g a b W.drew:=h
theorem RS3.drewN {pl g a b:Nat} {W:World} (h:RS3 pl g a b W) (n:Nat):RS3 pl g a b (W.drewN n):=h
theorem RS3.set {pl g a b c:Nat} {W:World} (hg:g≠c) (hp:pl≠c) (h:RS3 pl g a b W) (j:Nat) (u:Value):RS3 pl g a b (W.setCell ⟨c,j,none⟩ u):=
 ⟨(World.cell?_setCell_other _ ⟨c,j,none⟩ ⟨pl,0,none⟩ _ (fun e=>hp (congrArg Addr.block e).symm)).trans h.1,(World.cell?_setCell_other _ ⟨c,j,none⟩ ⟨g,5,none⟩ _ (fun e=>hg (congrArg Addr.block e).symm)).trans h.2.1,(World.cell?_setCell_other _ ⟨c,j,none⟩ ⟨g,6,none⟩ _ (fun e=>hg (congrArg Addr.block e).symm)).trans h.2.2⟩
theorem RL.step {W w : World} {g pl a b k q : Nat} {d st se : Value} (h : RL W g pl d st se a b k w) (hga : g ≠ a) (hgb : g ≠ b) (hab : a ≠ b) (hpa : pl ≠ a) (hpb : pl ≠ b) (e1 : (expAt k).set k (q : Int) = expAt (k + 1)) (e2 : (logAt k).set q (k : Int) = logAt (k + 1)) (hla : W.heap.size <= a) (hlb : W.heap.size <= b) :
  RL W g pl d st se a b (k+1) ((w.setCell ⟨a,k,none⟩ (.int .i64 q)).setCell ⟨b,q,none⟩ (.int .i64 k)):=
 ⟨bHz (bHz h.h1 hga _) hgb _,bHz (dHz h.h2 k _ e1) hab _,dHz (bHz h.h3 (Ne.symm hab) _) q _ e2,bHz (bHz h.h4 hpa _) hpb _,(h.h9.new hla _ _).new hlb _ _⟩
theorem RL.below {W w w1:World} {g pl a b k:Nat} {d st se:Value} (h:RL W g pl d st se a b k w) (hb:Below w.heap.size w w1):RL W g pl d st se a b k w1:=
 ⟨awz h.h1 hb,awz h.h2 hb,awz h.h3 hb,awz h.h4 hb,h.h9.trans (BB.of_below hb g)⟩
theorem gf_ready1.calls (g pl : Nat) (d : Value) (st se : Value) (W : World) (hne : g ≠ pl)
  (hg:W.heap[g]?=some (.cells #[.int .i64 8, .int .u32 285,d,st,se, .slice none 0 0, .slice none 0 0] 172 (0,0)))
  (hp:W.heap[pl]?=some (.cells #[.pointer (some ⟨g,0,none⟩)] 72 (0,0))):
  Calls Tryz.prog 179 #[.pointer (some ⟨pl,0,none⟩)] W fun e w'=>e= .returned (.tuple #[])/\ ∃a b,
   w'.heap[g]?=some (.cells #[.int .i64 8, .int .u32 285,d,st,se, .slice (some ⟨a,0,none⟩) 256 256, .slice (some ⟨b,0,none⟩) 256 256] 172 (0,0))/\
   w'.heap[a]?=some (.cells (nums .i64 (expAt 255)).toArray 3 (0,0))/\w'.heap[b]?=some (.cells (nums .i64 (logAt 255)).toArray 3 (0,0))/\
   W.heap.size<=a/\W.heap.size<=b/\BB W w' g:=by
 have hp0:W.cell? ⟨pl,0,none⟩=some (.pointer (some ⟨g,0,none⟩)):=(aaz hp 0).trans rfl;have hg0:W.cell? ⟨g,0,none⟩=some (.int .i64 8):=(aaz hg 0).trans rfl;have hg5:W.cell? ⟨g,5,none⟩=some (.slice none 0 0):=(aaz hg 5).trans rfl;have hg6:W.cell? ⟨g,6,none⟩=some (.slice none 0 0):=(aaz hg 6).trans rfl;have hf5:=a6z hg 5;have hf6:=a6z hg 6;have hmk:=make256;have hRS:RS pl g W:=Zb hp0 hg0;go_enter Tryz.func179,Tryz.ntmps179
 go_upto_region 0 with fail
 go_cut [] (fun wx=>R1 W g pl d st se wx)
 case first=>
  have n1:=World.new_ne W _ hp0;have n2:=World.new_ne W _ hg0;have hgl:g<W.heap.size:=aPz hg;have hge: ¬g=W.heap.size:=by omega
  have hge1: ¬g=W.heap.size+1:=by omega
  have n2':W.heap.size+1≠g:=by omega
  have c5: ∀(n:Nat) (X:Obj),((W.drewN n).alloc X).cell? ⟨g,5,none⟩=some (.slice none 0 0):=fun n X=>(World.cell?_alloc_past _ _ _ hgl).trans hg5
  have c6: ∀(n:Nat) (X:Obj),((W.drewN n).alloc X).cell? ⟨g,6,none⟩=some (.slice none 0 0):=fun n X=>(World.cell?_alloc_past _ _ _ hgl).trans hg6
  have f5: ∀(n:Nat) (X:Obj),((W.drewN n).alloc X).frozen? ⟨g,5,none⟩=false:=fun n X=>(World.frozen?_alloc_past _ _ _ hgl).trans hf5
  have f6: ∀(n:Nat) (X:Obj),((W.drewN n).alloc X).frozen? ⟨g,6,none⟩=false:=fun n X=>(World.frozen?_alloc_past _ _ _ hgl).trans hf6
  go_region_held3 (fun W'=>W'.cell? ⟨pl,0,none⟩=some (.pointer (some ⟨g,0,none⟩))/\W'.cell? ⟨g,0,none⟩=some (.int .i64 8)) (first|exact ⟨hp0,hg0⟩|(show RS pl g _;(repeat (first|with_reducible exact hRS|with_reducible refine RS.drewN ?_ _|with_reducible refine RS.drew ?_|with_reducible refine RS.alloc ?_ _|with_reducible refine RS.set hne ?_ 5 (by decide) _|with_reducible refine RS.set hne ?_ 6 (by decide) _)))) (first|(go_at_call 150;(refine (gf_Size8 g _ (by first|assumption|(go_simp;done))).mono ?_);rintro e W1 ⟨rfl,m1,rfl⟩))
  all_goals
   go_wp2_with fail
   go_meet
   refine R1.of ⟨_,by (repeat (with_reducible first|exact hg|apply enz|apply aEz|apply cwz|apply cTz)),by rfl⟩ ?_ ?_ ?_ (by omega) (by omega) (by omega) ?_
   ·repeat (first|(with_reducible first|refine bHz ?_ n2 _|refine bHz ?_ n2' _|refine cwz ?_ _|refine cTz ?_)|(refine bBz _ _ _ ?_;(simp;done))|(with_reducible refine aEz ?_ _))
   ·repeat (first|(with_reducible first|refine bHz ?_ n2 _|refine bHz ?_ n2' _|refine cwz ?_ _|refine cTz ?_)|(refine bBz _ _ _ ?_;(simp;done))|(with_reducible refine aEz ?_ _))
   ·repeat (with_reducible first|exact hp|refine bHz ?_ (Ne.symm hne) _|refine aEz ?_ _|refine cwz ?_ _|refine cTz ?_)
   ·repeat (with_reducible first|exact BB.refl _ _|refine BB.set ?_ _ _|refine BB.alloc ?_ _|refine BB.drewN ?_ _|refine BB.drew ?_)
 case rest=>
  obtain ⟨a,b,⟨_,hgb,rfl⟩,ha,hb,hpl,hla,hlb,hab,hBB⟩:=hcut;have hp1:wc.cell? ⟨pl,0,none⟩=some (.pointer (some ⟨g,0,none⟩)):=(aaz hpl 0).trans rfl;have hg1:wc.cell? ⟨g,0,none⟩=some (.int .i64 8):=(aaz hgb 0).trans rfl;have HL:=Za (RL.of hgb ha hb hpl (h9:=hBB));have hpl':pl<W.heap.size:=aPz hp;have hgl':g<W.heap.size:=aPz hg;clear hg hp hp0 hg0 hg5 hg6 hf5 hf6 hmk hRS hgb ha hb hpl hBB
  go_wp2_with (first|(go_at_call 150;(refine (gf_Size8 g _ (by first|assumption|(go_simp;done))).mono ?_);rintro e W1 ⟨rfl,m1,rfl⟩))
  go_loopw [1,20] (fun x i wr=> ∃k:Nat,k<=255/\x= .int .i64 (gpN k:Int)/\i= .int .i64 k/\Aside0 (RL W g pl d st se a b k wr)) (fun _ i _=>255 - (intOf i).toNat)
  case atStart=>exact ⟨0,by omega,rfl,rfl,⟨HL.out.drewN _⟩⟩
  clear hp1 hg1 HL;obtain ⟨k,hk,rfl,rfl,HL⟩:=hrel;by_cases hlt:k<255
  ·have HS:=Za (gpN_step k hlt);have HQ:=Za (show (logAt k).set (gpN k) (k:Int)=logAt (k+1) from rfl);obtain ⟨q3,q4⟩:=gpN_range (k+1) (by omega);obtain ⟨q',hq'⟩: ∃q',gpN (k+1)=q':=⟨_,rfl⟩;rw [hq'] at HS q3 q4;have HQ':=Za hq';clear hq';obtain ⟨q1,q2⟩:=gpN_range k (by omega);have HE:=Za (show (expAt k).set k (gpN k:Int)=expAt (k+1) from rfl);generalize gpN k=q at HS HQ HE q1 q2|-;have hga:g≠a:=by rintro rfl;omega
   have hgb:g≠b:=by rintro rfl;omega
   have hpa:pl≠a:=by omega
   have hpb:pl≠b:=by omega
   have hpl0:wr.cell? ⟨pl,0,none⟩=some (.pointer (some ⟨g,0,none⟩)):=(aaz HL.out.h4 0).trans rfl;have hg1:wr.cell? ⟨g,1,none⟩=some (.int .u32 285):=(aaz HL.out.h1 1).trans rfl;have hg5:wr.cell? ⟨g,5,none⟩=some (.slice (some ⟨a,0,none⟩) 256 256):=(aaz HL.out.h1 5).trans rfl;have hg6:wr.cell? ⟨g,6,none⟩=some (.slice (some ⟨b,0,none⟩) 256 256):=(aaz HL.out.h1 6).trans rfl;obtain ⟨z1,hz1⟩:=nums_cell HL.out.h2 k (by rw [evz];omega);obtain ⟨z2,hz2⟩:=nums_cell HL.out.h3 q (by rw [ewz];omega);have hf1:=a6z HL.out.h2 k;have hf2:=a6z HL.out.h3 q;have i1:(0:Int)<=(k:Int):=by omega
   have i2:(k:Int)<256:=by omega
   have i3:(0:Int)<=(q:Int):=by omega
   have i4:(q:Int)<256:=by omega
   have hRS:RS3 pl g a b wr:=⟨hpl0,hg5,hg6⟩
   go_wp2_with fail
   go_region_held3 (fun W'=>W'.cell? ⟨pl,0,none⟩=some (.pointer (some ⟨g,0,none⟩))/\W'.cell? ⟨g,5,none⟩=some (.slice (some ⟨a,0,none⟩) 256 256)/\W'.cell? ⟨g,6,none⟩=some (.slice (some ⟨b,0,none⟩) 256 256)) (first|exact ⟨hpl0,hg5,hg6⟩|(show RS3 pl g a b _;(repeat (first|with_reducible exact hRS|with_reducible refine RS3.drewN ?_ _|with_reducible refine RS3.drew ?_|with_reducible refine RS3.set hga hpa ?_ _ _|with_reducible refine RS3.set hgb hpb ?_ _ _)))) (fail)
   have HN:=Za (RL.step HL.out hga hgb hab hpa hpb HE.out HQ.out hla hlb);clear HL hpl0 hg1 hg5 hg6 hf1 hf2 hz1 hz2;have hm0:=Za (HN.out.drewN 1);have hd1:((wr.setCell ⟨a,k,none⟩ (.int .i64 q)).setCell ⟨b,q,none⟩ (.int .i64 k)).drew=((wr.setCell ⟨a,k,none⟩ (.int .i64 q)).setCell ⟨b,q,none⟩ (.int .i64 k)).drewN 1:=rfl;rw [hd1];clear HN hd1;generalize ((wr.setCell ⟨a,k,none⟩ (.int .i64 q)).setCell ⟨b,q,none⟩ (.int .i64 k)).drewN 1=w2 at hm0|-;have hpl0:w2.cell? ⟨pl,0,none⟩=some (.pointer (some ⟨g,0,none⟩)):=(aaz hm0.out.h4 0).trans rfl;have hg1:w2.cell? ⟨g,1,none⟩=some (.int .u32 285):=(aaz hm0.out.h1 1).trans rfl
   go_wp2_with (first|(go_at_call 152;(refine (bYz.calls 40 _ _ _ _ _ HS.out).mono ?_);rintro e W1 ⟨rfl,hB⟩))
   exact ⟨⟨k+1,by omega,by rw [HQ'.out],by go_num,⟨hm0.out.below hB⟩⟩,by simp [intOf];omega⟩
  ·have:k=255:=by omega
   subst this;go_wp2
   go_end0
   exact ⟨rfl,a,b,HL.out.h1,HL.out.h2,HL.out.h3,hla,hlb,HL.out.h9⟩
theorem gf_Bits.calls (g : Nat) (wb p : Int) (S : Nat -> Prop) (W : World) (hF : Fd W g wb p S) :
  Calls Tryz.prog 155 #[.pointer (some ⟨g,0,none⟩)] W fun e w'=>e= .returned (.int .i64 wb)/\Drawn0 W w':=by
 have hc:=hF.bits;clear hF;go_enter Tryz.func155,Tryz.ntmps155;go_wp2;go_ret;exact ⟨rfl,Drawn0.refl _⟩
theorem eqz.calls (g : Nat) (wb p : Int) (S : Nat -> Prop) (W : World) (hF : Fd W g wb p S) (hw : wb = 8 \/ wb = 16) :
  Calls Tryz.prog 150 #[.pointer (some ⟨g,0,none⟩)] W fun e w'=>e= .returned (.int .i64 (fsize wb))/\Drawn0 W w':=by
 have hc:=hF.bits;clear hF;rcases hw with rfl|rfl
 all_goals
  go_enter Tryz.func150,Tryz.ntmps150;go_wp2;go_ret;exact ⟨by simp [fsize],Drawn0.refl _⟩
theorem gf_in.calls (g : Nat) (wb p : Int) (S : Nat -> Prop) (A : Option Addr) (c : Nat) (l : List Int) (W : World) (hF : Fd W g wb p S) (hw : wb = 8 \/ wb = 16) (hr : Kd.C (Kd.int .i64) W A l.length l) (hl : l.length <= 1000000) :
  Calls Tryz.prog 151 #[.pointer (some ⟨g,0,none⟩), .slice A l.length c] W fun e w'=>e= .returned (.bool (allIn wb l))/\Drawn0 W w':=by
 have HF:=Za hF;have HR:=Za hr;clear hF hr;go_enter Tryz.func151,Tryz.ntmps151;go_wp2
 go_loopw [9] (fun i wr=> ∃k m:Nat,k<=l.length/\i= .int .i64 k/\wr=W.drewN m/\allIn wb l=allIn wb (l.drop k))
  (fun i _=>l.length - (intOf i).toNat)
 case atStart=>exact ⟨0,0,Nat.zero_le _,rfl,rfl,by rw [List.drop_zero]⟩
 obtain ⟨k,m,hk,rfl,rfl,hall⟩:=hrel;by_cases hlt:k<l.length
 ·have hd : allIn wb (l.drop k) = ((decide (0 <= rd l (k : Int)) && decide (rd l (k : Int) < fsize wb)) && allIn wb (l.drop (k + 1))) := by
   rw [List.drop_eq_getElem_cons hlt];simp [allIn,rd,Zm,hlt, -List.getElem_cons_drop]
  rw [hd] at hall;clear hd;obtain ⟨ad,e1,hx⟩:=Kd.bAz (Kd.buz HR.out m) (k:Int) (by omega) (by omega);cases e1
  simp only [Zu] at hx;generalize rd l (k:Int)=z at hx hall;have HALL:=Za hall;clear hall;by_cases hz:z<0
  ·have hz1:decide (z<0)=true:=Zd hz;go_wp2;go_ret;refine ⟨?_,Drawn0.step (Drawn0.refl _) _⟩;rw [HALL.out,Ze (by omega)];rfl
  ·have hz1:decide (z<0)=false:=Ze hz;by_cases hz2:fsize wb<=z
   ·have hz3:decide (fsize wb<=z)=true:=Zd hz2
    go_wp2_with (go_at_call 150;refine (eqz.calls g wb p S _ (HF.out.drewN m) hw).mono ?_;rintro e w9 ⟨rfl,m9,rfl⟩)
    go_ret;refine ⟨?_,dn_⟩;rw [HALL.out,Ze (show¬z<fsize wb by omega),Bool.and_false];rfl
   ·have hz3:decide (fsize wb<=z)=false:=Ze hz2
    go_wp2_with (go_at_call 150;refine (eqz.calls g wb p S _ (HF.out.drewN m) hw).mono ?_;rintro e w9 ⟨rfl,m9,rfl⟩)
    go_roundw
    case rel=>exact ⟨k+1,m+m9,by omega,by go_num,by simp [World.drewN_drewN],by rw [HALL.out,Zd (show 0<=z by omega),Zd (show z<fsize wb by omega)];rfl⟩
    case measure=>simp [intOf];omega
 ·have:k=l.length:=by omega
  subst this;have HALL:=Za hall;go_wp2;go_ret;refine ⟨?_,Drawn0.step (Drawn0.refl _) _⟩;rw [HALL.out,List.drop_length];rfl
end Go.Proofs.Xc
end
