-- Joined texts of this work (wip/tools/bundle.py).
import Derived.Test.YtpdakdcmahlghaaGreatBReconUpdates10
set_option maxHeartbeats 8000000
set_option maxRecDepth 100000
set_option linter.unusedVariables false
set_option linter.unusedSimpArgs false
section
namespace Go.Proofs.Xc
open Go.RowKit Go.Proofs.Pw Go.Proofs.Pl Go.Proofs.Pm
attribute [local go_sem] a7z a8z bjz bkz aZz a0z a9z baz
def aWz.l0:Nat->List Int->List Int->Int->Int->Option (List Int×Bool)
 |0,_,_,_,_=>none
 |k+1,x1,x6,x7,x8=>if (wrap64 (x8+x7))<=(x1.length:Int) then (if 0<=x8 then (if x8<(x1.length:Int) then (if x7=2 then (if 0<=(wrap64 (x8+1)) then (if (wrap64 (x8+1))<(x1.length:Int) then (if x6.length<17592186044416 then (aWz.l0 k x1 (x6++ [wrap64 ((wrap64 (rd x1 x8))+(wrap64 (256*(wrap64 (rd x1 (wrap64 (x8+1)))))))]) x7 (wrap64 (x8+x7))) else (none)) else (none)) else (none)) else (if x6.length<17592186044416 then (aWz.l0 k x1 (x6++ [wrap64 (rd x1 x8)]) x7 (wrap64 (x8+x7))) else (none))) else (none)) else (none)) else (if x7=0 then (none) else (some (x6,(((x1.length:Int) % x7)==0))))
def aWz.f (k:Nat) (a0:Int) (l1:List Int):Option (List Int×Bool):=aWz.l0 k l1 ([] :List Int) (wrap64 (Int.tdiv a0 8)) 0
theorem aWz.calls (k : Nat) (a0 : Int) (A1 : Option Addr) (c1 : Nat) (l1 : List Int) (r1 : List Int) (r2 : Bool) (w : World) (hr1 : Kd.C (Kd.int .u8) w A1 l1.length l1) (hc1 : l1.length <= c1) (h : aWz.f k a0 l1 = some (r1, r2)) :
  Calls Tryz.prog 105 #[.int .i64 a0, .slice A1 l1.length c1] w fun e w'=> ∃v0_:Value,e= .returned (.tuple #[v0_, .bool r2])/\Kd.R (Kd.int .i64) 3 w' w.heap.size (fun _=>True) v0_ r1/\Below w.heap.size w w':=by
 have HR1:=Za hr1;have HC1:=Za hc1;clear hr1 hc1;have HB:=Za (Zw w.heap.size w);have H:=h;clear h;unfold aWz.f at H;have H':=Za H;clear H;go_enter Tryz.func105,Tryz.ntmps105;go_wp2
 repeat (go_quiet (fail);try go_wp2)
 go_loopg [6,8] k (fun kq v6 v8 w'=> ∃(x6_1:List Int) (x8_1:Int),v8= .int .i64 x8_1/\Aside0 (aWz.l0 kq l1 x6_1 (wrap64 (Int.tdiv a0 8)) x8_1=some (r1,r2))/\Aside0 (kq<=k)/\Aside0 (Kd.R (Kd.int .i64) 3 w' w.heap.size (fun _=>True) v6 x6_1)/\Aside0 (Below w.heap.size w w'))
 case atStart=>exact ⟨(([] :List Int)),(0),sd_,H',⟨Zv _⟩,⟨nl_⟩,⟨bl_⟩⟩
 clear H';obtain ⟨x6_1,x8_1,rfl,HA,HK1,HO_6,HB⟩:=hrel;rcases gk with _|k1
 ·exact Yf HA.out (by simp [aWz.l0])
 have H:=HA.out;clear HA;simp only [aWz.l0] at H;by_cases c3:(wrap64 (x8_1+(wrap64 (Int.tdiv a0 8))))<=(l1.length:Int)
 rotate_left
 ·rw [Yb c3] at H;have c3b0:=Ze c3;clear c3;by_cases c14:(wrap64 (Int.tdiv a0 8))=0
  ·rw [Ya c14] at H;exact Yf H (by simp)
  ·rw [Yb c14] at H;have c14b0:((wrap64 (Int.tdiv a0 8))==0)=false:=Zq c14;have c14b1:((wrap64 (Int.tdiv a0 8)) !=0)=true:=Yd c14;simp only [Zx,Zy] at H;obtain ⟨rfl,rfl⟩:=H;go_wp2
   repeat (go_quiet (fail);try go_wp2)
   go_ret2;exact ⟨_,er_,xd_ HO_6.out,bl_⟩
 rw [Ya c3] at H;have c3b0:=Zd c3;clear c3;by_cases c4:0<=x8_1
 rotate_left
 ·rw [Yb c4] at H;exact Yf H (by simp)
 rw [Ya c4] at H;have c4b0:=Zd c4;clear c4;by_cases c5:x8_1<(l1.length:Int)
 rotate_left
 ·rw [Yb c5] at H;exact Yf H (by simp)
 rw [Ya c5] at H;have c5b0:=Zd c5;clear c5;by_cases c6:(wrap64 (Int.tdiv a0 8))=2
 rotate_left
 ·rw [Yb c6] at H;have c6b0:((wrap64 (Int.tdiv a0 8))==2)=false:=Zq c6;have c6b1:((wrap64 (Int.tdiv a0 8)) !=2)=true:=Yd c6;by_cases c12:x6_1.length<17592186044416
  rotate_left
  ·rw [Yb c12] at H;exact Yf H (by simp)
  rw [Ya c12] at H;have LMc12:=Za c12;clear c12;obtain ⟨y416,hy416⟩: ∃y_:List Int,y_=(x6_1++ [wrap64 (rd l1 x8_1)]):=⟨_,rfl⟩
  first|rw [Zl, <-hy416] at H|rw [<-hy416] at H
  (try dsimp only at H)
  have Ny416:=Za hy416;clear hy416;have H':=Za H;clear H;have p411:0<=(x8_1:Int):=Zc as_;have q411:x8_1<(l1.length:Int):=Zc as_;obtain ⟨ad411,e411,hx411_0⟩:=Kd.bAz HR1.out x8_1 p411 q411;cases e411
  replace hx411_0:=(HB.out.cell (Zj w _ hx411_0)).trans hx411_0;replace p411:=Zz p411;replace q411:=Zz q411
  go_wp2_with (first|((with_reducible refine anz (b:= .append) (xs:= #[.tmp 37, .tmp 39]) rfl ?_);at_builtin;refine Kd.bxz (Kd.int .i64) (w0:=w) w.heap.size rfl (.tmp 37) (.tmp 39) 57 3 (.int .i64 0) 8 rfl Tryz.underlying57 info3 rfl (by decide) (by omega) u6 x6_1 (wrap64 (rd l1 x8_1)) [.int .i64 (wrap64 (rd l1 x8_1))] (fun _=>True) (fun _=>False) rfl rfl ?aP (fun _ hk=>hk.elim) ?aF ?aO ?aB ?aS ?aL ?_;(case aP=>exact rfl);(case aB=>exact bl_);(case aF=>exact (fun _ _=>trivial));(case aO=>exact (xd_ HO_6.out));(case aS=>exact (aez bl_));(case aL=>have:=LMc12.out;omega);intro v417 w13 ho hb hg hat;rw [<-Ny416.out] at ho;have n_:=Zb (Za (hb)) (Za (ho));clear HB HO_6;obtain ⟨HB,HO418⟩:=n_;clear ho hb hg hat))
  go_roundg k1
  case measure=>have:=HK1.out;omega
  case rel=>exact ⟨(y416),(wrap64 (x8_1+(wrap64 (Int.tdiv a0 8)))),sd_,H',⟨by have:=HK1.out;omega⟩,⟨xd_ HO418.out⟩,⟨bl_⟩⟩
 rw [Ya c6] at H;have c6b0:((wrap64 (Int.tdiv a0 8))==2)=true:=Ye c6;have c6b1:((wrap64 (Int.tdiv a0 8)) !=2)=false:=Yc c6;clear c6;obtain ⟨ji7,hji7⟩: ∃j_:Int,(wrap64 (x8_1+1))=j_:=⟨_,rfl⟩
 replace H:(if 0<=(ji7) then (if (ji7)<(l1.length:Int) then (if x6_1.length<17592186044416 then (aWz.l0 k1 l1 (x6_1++ [wrap64 ((wrap64 (rd l1 x8_1))+(wrap64 (256*(wrap64 (rd l1 (ji7))))))]) (wrap64 (Int.tdiv a0 8)) (wrap64 (x8_1+(wrap64 (Int.tdiv a0 8))))) else (none)) else (none)) else (none))=some (r1,r2):=by first|(rw [hji7] at H;exact H)|(simp only [hji7] at H|-;exact H)
 have hji7w:(IntKind.i64.wrap (x8_1+1))=ji7:=(i64_w _).trans hji7;by_cases c8:0<=(ji7)
 rotate_left
 ·rw [Yb c8] at H;exact Yf H (by simp)
 rw [Ya c8] at H;have c8b0:=Zd c8;clear c8;by_cases c9:(ji7)<(l1.length:Int)
 rotate_left
 ·rw [Yb c9] at H;exact Yf H (by simp)
 rw [Ya c9] at H;have c9b0:=Zd c9;clear c9;by_cases c10:x6_1.length<17592186044416
 rotate_left
 ·rw [Yb c10] at H;exact Yf H (by simp)
 rw [Ya c10] at H;have LMc10:=Za c10;clear c10;obtain ⟨y413,hy413⟩: ∃y_:List Int,y_=(x6_1++ [wrap64 ((wrap64 (rd l1 x8_1))+(wrap64 (256*(wrap64 (rd l1 (ji7))))))]):=⟨_,rfl⟩
 first|rw [Zl, <-hy413] at H|rw [<-hy413] at H
 (try dsimp only at H)
 have Ny413:=Za hy413;clear hy413;have H':=Za H;clear H;have p411:0<=(x8_1:Int):=Zc as_;have q411:x8_1<(l1.length:Int):=Zc as_;obtain ⟨ad411,e411,hx411_0⟩:=Kd.bAz HR1.out x8_1 p411 q411;cases e411
 replace hx411_0:=(HB.out.cell (Zj w _ hx411_0)).trans hx411_0;replace p411:=Zz p411;replace q411:=Zz q411;have p412:0<=((ji7):Int):=Zc as_;have q412:(ji7)<(l1.length:Int):=Zc as_;obtain ⟨ad412,e412,hx412_0⟩:=Kd.bAz HR1.out (ji7) p412 q412;obtain rfl:ad411=ad412:=(by injection e412);replace hx412_0:=(HB.out.cell (Zj w _ hx412_0)).trans hx412_0;replace p412:=Zz p412;replace q412:=Zz q412
 go_wp2_with (first|((with_reducible refine anz (b:= .append) (xs:= #[.tmp 37, .tmp 39]) rfl ?_);at_builtin;refine Kd.bxz (Kd.int .i64) (w0:=w) w.heap.size rfl (.tmp 37) (.tmp 39) 57 3 (.int .i64 0) 8 rfl Tryz.underlying57 info3 rfl (by decide) (by omega) u6 x6_1 (wrap64 ((wrap64 (rd l1 x8_1))+(wrap64 (256*(wrap64 (rd l1 (ji7))))))) [.int .i64 (wrap64 ((wrap64 (rd l1 x8_1))+(wrap64 (256*(wrap64 (rd l1 (ji7)))))))] (fun _=>True) (fun _=>False) rfl rfl ?aP (fun _ hk=>hk.elim) ?aF ?aO ?aB ?aS ?aL ?_;(case aP=>exact rfl);(case aB=>exact bl_);(case aF=>exact (fun _ _=>trivial));(case aO=>exact (xd_ HO_6.out));(case aS=>exact (aez bl_));(case aL=>have:=LMc10.out;omega);intro v414 w11 ho hb hg hat;rw [<-Ny413.out] at ho;have n_:=Zb (Za (hb)) (Za (ho));clear HB HO_6;obtain ⟨HB,HO415⟩:=n_;clear ho hb hg hat))
 go_roundg k1
 case measure=>have:=HK1.out;omega
 case rel=>exact ⟨(y413),(wrap64 (x8_1+(wrap64 (Int.tdiv a0 8)))),sd_,H',⟨by have:=HK1.out;omega⟩,⟨xd_ HO415.out⟩,⟨bl_⟩⟩
def aXz.l0:Nat->Int->List Int->List Int->Int->Option (List Int×Bool)
 |0,_,_,_,_=>none
 |k+1,x0,x1,x6,x7=>if x7<(x1.length:Int) then (if 0<=x7 then ((afz.f k x0 (rd x1 x7)).bind fun t420=>(if t420=true then (if x6.length<140737488355328 then ((some (x6++ [(Int.tmod (rd x1 x7) 256) % 256] :List Int)).bind fun y422=>(if x0=16 then (if y422.length<140737488355328 then (aXz.l0 k x0 x1 (y422++ [(wrap64 (Int.tdiv (rd x1 x7) 256)) % 256]) (wrap64 (x7+1))) else (none)) else (aXz.l0 k x0 x1 y422 (wrap64 (x7+1))))) else (none)) else (some (([] :List Int),false)))) else (none)) else (some (x6,true))
def aXz.f (k:Nat) (a0:Int) (l1:List Int):Option (List Int×Bool):=aXz.l0 k a0 l1 ([] :List Int) 0
theorem aXz.calls (k : Nat) (a0 : Int) (A1 : Option Addr) (c1 : Nat) (l1 : List Int) (r1 : List Int) (r2 : Bool) (w : World) (hr1 : Kd.C (Kd.int .i64) w A1 l1.length l1) (hc1 : l1.length <= c1) (h : aXz.f k a0 l1 = some (r1, r2)) :
  Calls Tryz.prog 108 #[.int .i64 a0, .slice A1 l1.length c1] w fun e w'=> ∃v0_:Value,e= .returned (.tuple #[v0_, .bool r2])/\Kd.R (Kd.int .u8) 5 w' w.heap.size (fun _=>True) v0_ r1/\Below w.heap.size w w':=by
 have HR1:=Za hr1;have HC1:=Za hc1;clear hr1 hc1;have HB:=Za (Zw w.heap.size w);have H:=h;clear h;unfold aXz.f at H;have H':=Za H;clear H;go_enter Tryz.func108,Tryz.ntmps108;go_wp2
 go_loopg [6,7] k (fun kq v6 v7 w'=> ∃(x6_1:List Int) (x7_1:Int),v7= .int .i64 x7_1/\Aside0 (aXz.l0 kq a0 l1 x6_1 x7_1=some (r1,r2))/\Aside0 (kq<=k)/\Aside0 (Kd.R (Kd.int .u8) 5 w' w.heap.size (fun _=>True) v6 x6_1)/\Aside0 (Below w.heap.size w w'))
 case atStart=>exact ⟨(([] :List Int)),(0),sd_,H',⟨Zv _⟩,⟨nl_⟩,⟨bl_⟩⟩
 clear H';obtain ⟨x6_1,x7_1,rfl,HA,HK1,HO_6,HB⟩:=hrel;rcases gk with _|k1
 ·exact Yf HA.out (by simp [aXz.l0])
 have H:=HA.out;clear HA;simp only [aXz.l0] at H;by_cases c3:x7_1<(l1.length:Int)
 rotate_left
 ·rw [Yb c3] at H;have c3b0:=Ze c3;clear c3;simp only [Zx,Zy] at H;obtain ⟨rfl,rfl⟩:=H;go_wp2;go_ret2;exact ⟨_,er_,xd_ HO_6.out,bl_⟩
 rw [Ya c3] at H;have c3b0:=Zd c3;clear c3;by_cases c4:0<=x7_1
 rotate_left
 ·rw [Yb c4] at H;exact Yf H (by simp)
 rw [Ya c4] at H;have c4b0:=Zd c4;clear c4;obtain ⟨t420,A5,H⟩:=ob_ H
 (try dsimp only at H)
 by_cases c6:t420=true
 rotate_left
 ·replace c6:=Zr c6;subst c6;rw [Yb (show¬(false=true) by decide)] at H;simp only [Zx,Zy] at H;obtain ⟨rfl,rfl⟩:=H;have p419:0<=(x7_1:Int):=Zc as_;have q419:x7_1<(l1.length:Int):=Zc as_;obtain ⟨ad419,e419,hx419_0⟩:=Kd.bAz HR1.out x7_1 p419 q419;cases e419
  replace hx419_0:=(HB.out.cell (Zj w _ hx419_0)).trans hx419_0;replace p419:=Zz p419;replace q419:=Zz q419
  go_wp2_with (first|((with_reducible refine abz (f:=106) rfl ?_);refine gl_ (some 19) Tryz.func106 #[.int .i64 a0, .int .i64 (rd l1 x7_1)] ?_;(with_reducible refine (afz.calls k1 a0 (rd l1 x7_1) false _ A5.out).mono ?_);rintro e w' ⟨rfl,⟨nd,rfl⟩⟩;refine ⟨_,rfl,?_⟩))
  go_ret2;exact ⟨_,er_,nl_,bl_⟩
 subst c6;rw [Ya rfl] at H;by_cases c7:x6_1.length<140737488355328
 rotate_left
 ·rw [Yb c7] at H;exact Yf H (by simp)
 rw [Ya c7] at H;have LMc7:=Za c7;clear c7;obtain ⟨y422,hy422⟩: ∃y_:List Int,y_=(x6_1++ [(Int.tmod (rd l1 x7_1) 256) % 256]):=⟨_,rfl⟩
 first|rw [Zl, <-hy422] at H|rw [<-hy422] at H
 (try dsimp only at H)
 have Ny422:=Za hy422;clear hy422;by_cases c8:a0=16
 rotate_left
 ·rw [Yb c8] at H;have c8b0:(a0==16)=false:=Zq c8;have c8b1:(a0 !=16)=true:=Yd c8;have H':=Za H;clear H;have p419:0<=(x7_1:Int):=Zc as_;have q419:x7_1<(l1.length:Int):=Zc as_;obtain ⟨ad419,e419,hx419_0⟩:=Kd.bAz HR1.out x7_1 p419 q419;cases e419
  replace hx419_0:=(HB.out.cell (Zj w _ hx419_0)).trans hx419_0;replace p419:=Zz p419;replace q419:=Zz q419
  go_wp2_with (first|((with_reducible refine abz (f:=106) rfl ?_);refine gl_ (some 19) Tryz.func106 #[.int .i64 a0, .int .i64 (rd l1 x7_1)] ?_;(with_reducible refine (afz.calls k1 a0 (rd l1 x7_1) true _ A5.out).mono ?_);rintro e w' ⟨rfl,⟨nd,rfl⟩⟩;refine ⟨_,rfl,?_⟩;have p421:0<=(x7_1:Int):=Zc as_;have q421:x7_1<(l1.length:Int):=Zc as_;obtain ⟨ad421,e421,hx421_0⟩:=Kd.bAz HR1.out x7_1 p421 q421;obtain rfl:ad419=ad421:=(by injection e421);replace hx421_0:=(HB.out.cell (Zj w _ hx421_0)).trans hx421_0;replace p421:=Zz p421;replace q421:=Zz q421)|((with_reducible refine anz (b:= .append) (xs:= #[.tmp 21, .tmp 28]) rfl ?_);at_builtin;refine Kd.bxz (Kd.int .u8) (w0:=w) w.heap.size rfl (.tmp 21) (.tmp 28) 34 5 (.int .u8 0) 1 rfl Tryz.underlying34 info5 rfl (by decide) (by omega) u6 x6_1 ((Int.tmod (rd l1 x7_1) 256) % 256) [.int .u8 ((Int.tmod (rd l1 x7_1) 256) % 256)] (fun _=>True) (fun _=>False) rfl rfl ?aP (fun _ hk=>hk.elim) ?aF ?aO ?aB ?aS ?aL ?_;(case aP=>exact rfl);(case aB=>exact bl_);(case aF=>exact (fun _ _=>trivial));(case aO=>exact (xd_ HO_6.out));(case aS=>exact (aez bl_));(case aL=>have:=LMc7.out;omega);intro v423 w12 ho hb hg hat;rw [<-Ny422.out] at ho;have n_:=Zb (Za (hb)) (Za (ho));clear HB HO_6;obtain ⟨HB,HO424⟩:=n_;clear ho hb hg hat))
  go_roundg k1
  case measure=>have:=HK1.out;omega
  case rel=>exact ⟨(y422),(wrap64 (x7_1+1)),sd_,H',⟨by have:=HK1.out;omega⟩,⟨xd_ HO424.out⟩,⟨bl_⟩⟩
 rw [Ya c8] at H;have c8b0:(a0==16)=true:=Ye c8;have c8b1:(a0 !=16)=false:=Yc c8;clear c8;by_cases c9:y422.length<140737488355328
 rotate_left
 ·rw [Yb c9] at H;exact Yf H (by simp)
 rw [Ya c9] at H;have LMc9:=Za c9;clear c9;obtain ⟨y426,hy426⟩: ∃y_:List Int,y_=(y422++ [(wrap64 (Int.tdiv (rd l1 x7_1) 256)) % 256]):=⟨_,rfl⟩
 first|rw [Zl, <-hy426] at H|rw [<-hy426] at H
 (try dsimp only at H)
 have Ny426:=Za hy426;clear hy426;have H':=Za H;clear H;have p419:0<=(x7_1:Int):=Zc as_;have q419:x7_1<(l1.length:Int):=Zc as_;obtain ⟨ad419,e419,hx419_0⟩:=Kd.bAz HR1.out x7_1 p419 q419;cases e419
 replace hx419_0:=(HB.out.cell (Zj w _ hx419_0)).trans hx419_0;replace p419:=Zz p419;replace q419:=Zz q419
 go_wp2_with (first|((with_reducible refine abz (f:=106) rfl ?_);refine gl_ (some 19) Tryz.func106 #[.int .i64 a0, .int .i64 (rd l1 x7_1)] ?_;(with_reducible refine (afz.calls k1 a0 (rd l1 x7_1) true _ A5.out).mono ?_);rintro e w' ⟨rfl,⟨nd,rfl⟩⟩;refine ⟨_,rfl,?_⟩;have p421:0<=(x7_1:Int):=Zc as_;have q421:x7_1<(l1.length:Int):=Zc as_;obtain ⟨ad421,e421,hx421_0⟩:=Kd.bAz HR1.out x7_1 p421 q421;obtain rfl:ad419=ad421:=(by injection e421);replace hx421_0:=(HB.out.cell (Zj w _ hx421_0)).trans hx421_0;replace p421:=Zz p421;replace q421:=Zz q421)|((with_reducible refine anz (b:= .append) (xs:= #[.tmp 21, .tmp 28]) rfl ?_);at_builtin;refine Kd.bxz (Kd.int .u8) (w0:=w) w.heap.size rfl (.tmp 21) (.tmp 28) 34 5 (.int .u8 0) 1 rfl Tryz.underlying34 info5 rfl (by decide) (by omega) u6 x6_1 ((Int.tmod (rd l1 x7_1) 256) % 256) [.int .u8 ((Int.tmod (rd l1 x7_1) 256) % 256)] (fun _=>True) (fun _=>False) rfl rfl ?aP (fun _ hk=>hk.elim) ?aF ?aO ?aB ?aS ?aL ?_;(case aP=>exact rfl);(case aB=>exact bl_);(case aF=>exact (fun _ _=>trivial));(case aO=>exact (xd_ HO_6.out));(case aS=>exact (aez bl_));(case aL=>have:=LMc7.out;omega);intro v423 w10 ho hb hg hat;rw [<-Ny422.out] at ho;have n_:=Zb (Za (hb)) (Za (ho));clear HB HO_6;obtain ⟨HB,HO424⟩:=n_;clear ho hb hg hat;have p425:0<=(x7_1:Int):=Zc as_;have q425:x7_1<(l1.length:Int):=Zc as_;obtain ⟨ad425,e425,hx425_0⟩:=Kd.bAz HR1.out x7_1 p425 q425;obtain rfl:ad419=ad425:=(by injection e425);replace hx425_0:=(HB.out.cell (Zj w _ hx425_0)).trans hx425_0;replace p425:=Zz p425;replace q425:=Zz q425)|((with_reducible refine anz (b:= .append) (xs:= #[.tmp 32, .tmp 39]) rfl ?_);at_builtin;refine Kd.bxz (Kd.int .u8) (w0:=w) w.heap.size rfl (.tmp 32) (.tmp 39) 34 5 (.int .u8 0) 1 rfl Tryz.underlying34 info5 rfl (by decide) (by omega) v423 y422 ((wrap64 (Int.tdiv (rd l1 x7_1) 256)) % 256) [.int .u8 ((wrap64 (Int.tdiv (rd l1 x7_1) 256)) % 256)] (fun _=>True) (fun _=>False) rfl rfl ?aP (fun _ hk=>hk.elim) ?aF ?aO ?aB ?aS ?aL ?_;(case aP=>exact rfl);(case aB=>exact bl_);(case aF=>exact (fun _ _=>trivial));(case aO=>exact (xd_ HO424.out));(case aS=>exact (aez bl_));(case aL=>have:=LMc9.out;omega);intro v427 w11 ho hb hg hat;rw [<-Ny426.out] at ho;have n_:=Zb (Za (hb)) (Za (ho));clear HB HO424;obtain ⟨HB,HO428⟩:=n_;clear ho hb hg hat))
 go_roundg k1
 case measure=>have:=HK1.out;omega
 case rel=>exact ⟨(y426),(wrap64 (x7_1+1)),sd_,H',⟨by have:=HK1.out;omega⟩,⟨xd_ HO428.out⟩,⟨bl_⟩⟩
mutual
def a2z.j0:Nat->Int->Int->Int->List Int->Bool->Option (List Int×Bool)
 |0,_,_,_,_,_=>none
 |k+1,x0,x1,x2,x10,x27=>if x27=true then (some (([] :List Int),false)) else (a2z.l0 k x0 x1 x2 x10 ([] :List Int) 0)
def a2z.l0:Nat->Int->Int->Int->List Int->List Int->Int->Option (List Int×Bool)
 |0,_,_,_,_,_,_=>none
 |k+1,x0,x1,x2,x10,x12,x13=>if x13<(x10.length:Int) then (if 0<=x13 then ((axz.f k x0 x1 x2 (rd x10 x13)).bind fun t435=>(if x12.length<17592186044416 then (a2z.l0 k x0 x1 x2 x10 (x12++ [t435]) (wrap64 (x13+1))) else (none))) else (none)) else ((aXz.f k x0 x12).bind fun bt439=>(some (bt439.1,bt439.2)))
end
def a2z.f (k:Nat) (a0:Int) (a1:Int) (a2:Int) (l3:List Int):Option (List Int×Bool):=(aWz.f k a0 l3).bind fun bt429=>(if bt429.2=true then ((afz.f k a0 a2).bind fun t433=>(a2z.j0 k a0 a1 a2 bt429.1 (!t433))) else (a2z.j0 k a0 a1 a2 bt429.1 true))
theorem a2z.calls (k : Nat) (a0 : Int) (a1 : Int) (a2 : Int) (A3 : Option Addr) (c3 : Nat) (l3 : List Int) (r1 : List Int) (r2 : Bool) (w : World) (hr3 : Kd.C (Kd.int .u8) w A3 l3.length l3) (hc3 : l3.length <= c3) (h : a2z.f k a0 a1 a2 l3 = some (r1, r2)) :
  Calls Tryz.prog 71 #[.int .i64 a0, .int .u32 a1, .int .i64 a2, .slice A3 l3.length c3] w fun e w'=> ∃v0_:Value,e= .returned (.tuple #[v0_, .bool r2])/\Kd.R (Kd.int .u8) 5 w' w.heap.size (fun _=>True) v0_ r1/\Below w.heap.size w w':=by
 have HR3:=Za hr3;have HC3:=Za hc3;clear hr3 hc3;have HB:=Za (Zw w.heap.size w);have H:=h;clear h;unfold a2z.f at H;obtain ⟨⟨t429,t430⟩,A5,H⟩:=ob_ H
 (try dsimp only at H)
 have HC6:=Za H;clear H;go_enter Tryz.func71,Tryz.ntmps71
 go_upto_region 2 with (first|((with_reducible refine abz (f:=105) rfl ?_);refine gl_ (some 17) Tryz.func105 #[.int .i64 a0, .slice A3 l3.length c3] ?_;(with_reducible refine (aWz.calls k a0 _ _ l3 t429 t430 _ (xd_ HR3.out) (HC3.out) A5.out).mono ?_);rintro e w7 ⟨v431,rfl,ho0,hb⟩;refine ⟨_,rfl,?_⟩;have n_:=Zb (Za (Kd.bDz ho0 (aez bl_))) (hs_ HB hb);clear HB;obtain ⟨HO432,HB⟩:=n_;clear hb ho0))
 (try simp only [Act.put,Zg,Zh,Zi])
 go_cut [27] (fun v27 wc=> ∃(kq:Nat) (x27_5:Bool),v27= .bool x27_5/\Aside0 (a2z.j0 kq a0 a1 a2 t429 x27_5=some (r1,r2))/\Aside0 (kq<=k)/\Aside0 (Kd.R (Kd.int .i64) 3 wc w.heap.size (fun _=>True) v431 t429)/\Aside0 (Below w.heap.size w wc))
 case first=>
  have H:=HC6.out;clear HC6;by_cases c8:t430=true
  ·subst c8;rw [Ya rfl] at H;obtain ⟨t433,A9,H⟩:=ob_ H
   (try dsimp only at H)
   have H':=Za H;clear H
   go_wp2_with (first|(go_at_call 106;(with_reducible refine (afz.calls k a0 a2 t433 _ A9.out).mono ?_);rintro e w' ⟨rfl,⟨nd,rfl⟩⟩))
   go_meet
   case rel=>exact ⟨_,(!t433),sd_,H',⟨by first|omega|exact Zv _⟩,⟨xd_ HO432.out⟩,⟨bl_⟩⟩
  ·replace c8:=Zr c8;subst c8;rw [Yb (show¬(false=true) by decide)] at H;have H':=Za H;clear H;go_wp2
   go_meet
   case rel=>exact ⟨_,(true),sd_,H',⟨by first|omega|exact Zv _⟩,⟨xd_ HO432.out⟩,⟨bl_⟩⟩
 case rest=>
  clear HC6;obtain ⟨kq,x27_5,rfl,HA,HJ5,HO_10,HB⟩:=hcut;rcases kq with _|kj5
  ·exact Yf HA.out (by simp [a2z.j0])
  have H:=HA.out;clear HA;simp only [a2z.j0] at H;by_cases c10:x27_5=true
  ·subst c10;rw [Ya rfl] at H;simp only [Zx,Zy] at H;obtain ⟨rfl,rfl⟩:=H;go_wp2;go_ret2;exact ⟨_,er_,nl_,bl_⟩
  ·replace c10:=Zr c10;subst c10;rw [Yb (show¬(false=true) by decide)] at H;have H':=Za H;clear H;go_wp2
   go_loopg [12,13] kj5 (fun kq v12 v13 w'=> ∃(x12_2:List Int) (x13_2:Int),v13= .int .i64 x13_2/\Aside0 (a2z.l0 kq a0 a1 a2 t429 x12_2 x13_2=some (r1,r2))/\Aside0 (kq<=kj5)/\Aside0 (Kd.R (Kd.int .i64) 3 w' w.heap.size (fun k_=>some k_≠(v12:Value).ownBlock) v431 t429)/\Aside0 (Kd.R (Kd.int .i64) 3 w' w.heap.size (fun k_=>some k_≠(v431:Value).ownBlock) v12 x12_2)/\Aside0 (Below w.heap.size w w'))
   case atStart=>exact ⟨(([] :List Int)),(0),sd_,H',⟨Zv _⟩,⟨rm_ HO_10⟩,⟨nl_⟩,⟨bl_⟩⟩
   clear H';obtain ⟨x12_2,x13_2,rfl,HA,HK2,HO_10,HO_12,HB⟩:=hrel;rcases gk with _|k2
   ·exact Yf HA.out (by simp [a2z.l0])
   have H:=HA.out;clear HA;simp only [a2z.l0] at H;by_cases c11:x13_2<(t429.length:Int)
   rotate_left
   ·rw [Yb c11] at H;have c11b0:=Ze c11;clear c11;obtain ⟨⟨t439,t440⟩,A17,H⟩:=ob_ H
    (try dsimp only at H)
    simp only [Zx,Zy] at H;obtain ⟨rfl,rfl⟩:=H;obtain ⟨Ao18,co18,eo18⟩:=Kd.aRz HO_10.out;subst eo18;obtain ⟨Ao19,co19,eo19⟩:=Kd.aRz HO_12.out;subst eo19
    go_wp2_with (first|((with_reducible refine abz (f:=108) rfl ?_);refine gl_ (some 47) Tryz.func108 #[.int .i64 a0, .slice Ao19 x12_2.length co19] ?_;(with_reducible refine (aXz.calls k2 a0 _ _ x12_2 t439 t440 _ (xd_ (Kd.aNz HO_12.out).2.2) ((Kd.aNz HO_12.out).2.1) A17.out).mono ?_);rintro e w20 ⟨v441,rfl,ho0,hb⟩;refine ⟨_,rfl,?_⟩;have n_:=Zb (Za (Kd.cDz (xd_ HO_10.out) hb)) (Zb (Za (Kd.cDz (xd_ HO_12.out) hb)) (Zb (Za (Kd.bDz ho0 (aez bl_))) (hs_ HB hb)));clear HO_10 HO_12 HB;obtain ⟨HO_10,HO_12,HO442,HB⟩:=n_;clear hb ho0))
    go_ret2;exact ⟨_,er_,xd_ HO442.out,bl_⟩
   rw [Ya c11] at H;have c11b0:=Zd c11;clear c11;by_cases c12:0<=x13_2
   rotate_left
   ·rw [Yb c12] at H;exact Yf H (by simp)
   rw [Ya c12] at H;have c12b0:=Zd c12;clear c12;obtain ⟨t435,A13,H⟩:=ob_ H
   (try dsimp only at H)
   by_cases c14:x12_2.length<17592186044416
   rotate_left
   ·rw [Yb c14] at H;exact Yf H (by simp)
   rw [Ya c14] at H;have LMc14:=Za c14;clear c14;obtain ⟨y436,hy436⟩: ∃y_:List Int,y_=(x12_2++ [t435]):=⟨_,rfl⟩
   first|rw [Zl, <-hy436] at H|rw [<-hy436] at H
   (try dsimp only at H)
   have Ny436:=Za hy436;clear hy436;have H':=Za H;clear H;obtain ⟨Ao15,co15,eo15⟩:=Kd.aRz HO_10.out;subst eo15;have p434:0<=(x13_2:Int):=Zc as_;have q434:x13_2<(t429.length:Int):=Zc as_;obtain ⟨ad434,e434,hx434_0⟩:=Kd.bAz (Kd.aNz HO_10.out).2.2 x13_2 p434 q434;cases e434
   replace p434:=Zz p434;replace q434:=Zz q434
   go_wp2_with (first|((with_reducible refine abz (f:=107) rfl ?_);refine gl_ (some 42) Tryz.func107 #[.int .i64 a0, .int .u32 a1, .int .i64 a2, .int .i64 (rd t429 x13_2)] ?_;(with_reducible refine (axz.calls k2 a0 a1 a2 (rd t429 x13_2) t435 _ A13.out).mono ?_);rintro e w' ⟨rfl,⟨nd,rfl⟩⟩;refine ⟨_,rfl,?_⟩)|((with_reducible refine anz (b:= .append) (xs:= #[.tmp 34, .tmp 43]) rfl ?_);at_builtin;refine Kd.bxz (Kd.int .i64) (w0:=w) w.heap.size rfl (.tmp 34) (.tmp 43) 57 3 (.int .i64 0) 8 rfl Tryz.underlying57 info3 rfl (by decide) (by omega) u12 x12_2 t435 [.int .i64 t435] (fun k_=>some k_≠(.slice (some ad434) t429.length co15:Value).ownBlock) (fun _=>False) rfl rfl ?aP (fun _ hk=>hk.elim) ?aF ?aO ?aB ?aS ?aL ?_;(case aP=>exact rfl);(case aB=>exact bl_);(case aF=>exact (fun k_ hk=>Kd.fresh' (Kd.R_lt (xd_ HO_10.out)) k_ hk));(case aO=>exact (xd_ HO_12.out));(case aS=>exact (aez bl_));(case aL=>have:=LMc14.out;omega);intro v437 w16 ho hb hg hat;rw [<-Ny436.out] at ho;have n_:=Zb (Za (Kd.R_after (ok:=(fun _=>True)) (rm_ HO_10) hg hat)) (Zb (Za (hb)) (Za (ho)));clear HO_10 HB HO_12;obtain ⟨HO_10,HB,HO438⟩:=n_;clear ho hb hg hat))
   go_roundg k2
   case measure=>have:=HJ5.out;have:=HK2.out;omega
   case rel=>exact ⟨(y436),(wrap64 (x13_2+1)),sd_,H',⟨by have:=HJ5.out;have:=HK2.out;omega⟩,⟨rm_ HO_10⟩,⟨xd_ HO438.out⟩,⟨bl_⟩⟩
end Go.Proofs.Xc
end
