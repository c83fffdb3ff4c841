-- Joined texts of this work (wip/tools/bundle.py).
import Derived.Test.YtpdakdcmahlghaaGreatBTrialTells16
set_option maxHeartbeats 8000000
set_option maxRecDepth 100000
set_option linter.unusedVariables false
set_option linter.unusedSimpArgs false
section
namespace Go.Proofs.Xc
open Go.RowKit Go.Proofs.Pw Go.Proofs.Pl Go.Proofs.Pm
attribute [local go_sem] bcz bdz bpz bqz a4z a5z bez bfz
def aYz.l0:Nat->List Int->List Int->Int->Int->Option (List Int×Bool)
 |0,_,_,_,_=>none
 |k+1,x1,x6,x7,x8=>if (wrap64 (x8+x7))<=(x1.length:Int) then (if 0<=x8 then (if x8<(x1.length:Int) then (if x7=2 then (if 0<=(wrap64 (x8+1)) then (if (wrap64 (x8+1))<(x1.length:Int) then (if x6.length<17592186044416 then (aYz.l0 k x1 (x6++ [wrap64 ((wrap64 (rd x1 x8))+(wrap64 (256*(wrap64 (rd x1 (wrap64 (x8+1)))))))]) x7 (wrap64 (x8+x7))) else (none)) else (none)) else (none)) else (if x6.length<17592186044416 then (aYz.l0 k x1 (x6++ [wrap64 (rd x1 x8)]) x7 (wrap64 (x8+x7))) else (none))) else (none)) else (none)) else (if x7=0 then (none) else (some (x6,(((x1.length:Int) % x7)==0))))
def aYz.f (k:Nat) (a0:Int) (l1:List Int):Option (List Int×Bool):=aYz.l0 k l1 ([] :List Int) (wrap64 (Int.tdiv a0 8)) 0
theorem aYz.calls (k : Nat) (a0 : Int) (A1 : Option Addr) (c1 : Nat) (l1 : List Int) (r1 : List Int) (r2 : Bool) (w : World) (hr1 : Kd.C (Kd.int .u8) w A1 l1.length l1) (hc1 : l1.length <= c1) (h : aYz.f k a0 l1 = some (r1, r2)) :
  Calls Tryz.prog 105 #[.int .i64 a0, .slice A1 l1.length c1] w fun e w'=> ∃v0_:Value,e= .returned (.tuple #[v0_, .bool r2])/\Kd.R (Kd.int .i64) 3 w' w.heap.size (fun _=>True) v0_ r1/\Below w.heap.size w w':=by
 have HR1:=Za hr1;have HC1:=Za hc1;clear hr1 hc1;have HB:=Za (Zw w.heap.size w);have H:=h;clear h;unfold aYz.f at H;have H':=Za H;clear H;go_enter Tryz.func105,Tryz.ntmps105;go_wp2
 repeat (go_quiet (fail);try go_wp2)
 go_loopg [6,8] k (fun kq v6 v8 w'=> ∃(x6_1:List Int) (x8_1:Int),v8= .int .i64 x8_1/\Aside0 (aYz.l0 kq l1 x6_1 (wrap64 (Int.tdiv a0 8)) x8_1=some (r1,r2))/\Aside0 (kq<=k)/\Aside0 (Kd.R (Kd.int .i64) 3 w' w.heap.size (fun _=>True) v6 x6_1)/\Aside0 (Below w.heap.size w w'))
 case atStart=>exact ⟨(([] :List Int)),(0),sd_,H',⟨Zv _⟩,⟨nl_⟩,⟨bl_⟩⟩
 clear H';obtain ⟨x6_1,x8_1,rfl,HA,HK1,HO_6,HB⟩:=hrel;rcases gk with _|k1
 ·exact Yf HA.out (by simp [aYz.l0])
 have H:=HA.out;clear HA;simp only [aYz.l0] at H;by_cases c3:(wrap64 (x8_1+(wrap64 (Int.tdiv a0 8))))<=(l1.length:Int)
 rotate_left
 ·rw [Yb c3] at H;have c3b0:=Ze c3;clear c3;by_cases c14:(wrap64 (Int.tdiv a0 8))=0
  ·rw [Ya c14] at H;exact Yf H (by simp)
  ·rw [Yb c14] at H;have c14b0:((wrap64 (Int.tdiv a0 8))==0)=false:=Zq c14;have c14b1:((wrap64 (Int.tdiv a0 8)) !=0)=true:=Yd c14;simp only [Zx,Zy] at H;obtain ⟨rfl,rfl⟩:=H;go_wp2
   repeat (go_quiet (fail);try go_wp2)
   go_ret2;exact ⟨_,er_,xd_ HO_6.out,bl_⟩
 rw [Ya c3] at H;have c3b0:=Zd c3;clear c3;by_cases c4:0<=x8_1
 rotate_left
 ·rw [Yb c4] at H;exact Yf H (by simp)
 rw [Ya c4] at H;have c4b0:=Zd c4;clear c4;by_cases c5:x8_1<(l1.length:Int)
 rotate_left
 ·rw [Yb c5] at H;exact Yf H (by simp)
 rw [Ya c5] at H;have c5b0:=Zd c5;clear c5;by_cases c6:(wrap64 (Int.tdiv a0 8))=2
 rotate_left
 ·rw [Yb c6] at H;have c6b0:((wrap64 (Int.tdiv a0 8))==2)=false:=Zq c6;have c6b1:((wrap64 (Int.tdiv a0 8)) !=2)=true:=Yd c6;by_cases c12:x6_1.length<17592186044416
  rotate_left
  ·rw [Yb c12] at H;exact Yf H (by simp)
  rw [Ya c12] at H;have LMc12:=Za c12;clear c12;obtain ⟨y713,hy713⟩: ∃y_:List Int,y_=(x6_1++ [wrap64 (rd l1 x8_1)]):=⟨_,rfl⟩
  first|rw [Zl, <-hy713] at H|rw [<-hy713] at H
  (try dsimp only at H)
  have Ny713:=Za hy713;clear hy713;have H':=Za H;clear H;have p708:0<=(x8_1:Int):=Zc as_;have q708:x8_1<(l1.length:Int):=Zc as_;obtain ⟨ad708,e708,hx708_0⟩:=Kd.boz HR1.out x8_1 p708 q708;cases e708
  replace hx708_0:=(HB.out.cell (Zj w _ hx708_0)).trans hx708_0;replace p708:=Zz p708;replace q708:=Zz q708
  go_wp2_with (first|((with_reducible refine aoz (b:= .append) (xs:= #[.tmp 37, .tmp 39]) rfl ?_);at_builtin;refine Kd.bmz (Kd.int .i64) (w0:=w) w.heap.size rfl (.tmp 37) (.tmp 39) 57 3 (.int .i64 0) 8 rfl Tryz.underlying57 info3 rfl (by decide) (by omega) u6 x6_1 (wrap64 (rd l1 x8_1)) [.int .i64 (wrap64 (rd l1 x8_1))] (fun _=>True) (fun _=>False) rfl rfl ?aP (fun _ hk=>hk.elim) ?aF ?aO ?aB ?aS ?aL ?_;(case aP=>exact rfl);(case aB=>exact bl_);(case aF=>exact (fun _ _=>trivial));(case aO=>exact (xd_ HO_6.out));(case aS=>exact (adz bl_));(case aL=>have:=LMc12.out;omega);intro v714 w13 ho hb hg hat;rw [<-Ny713.out] at ho;have n_:=Zb (Za (hb)) (Za (ho));clear HB HO_6;obtain ⟨HB,HO715⟩:=n_;clear ho hb hg hat))
  repeat (go_quiet (first|((with_reducible refine aoz (b:= .append) (xs:= #[.tmp 37, .tmp 39]) rfl ?_);at_builtin;refine Kd.bmz (Kd.int .i64) (w0:=w) w.heap.size rfl (.tmp 37) (.tmp 39) 57 3 (.int .i64 0) 8 rfl Tryz.underlying57 info3 rfl (by decide) (by omega) u6 x6_1 (wrap64 (rd l1 x8_1)) [.int .i64 (wrap64 (rd l1 x8_1))] (fun _=>True) (fun _=>False) rfl rfl ?aP (fun _ hk=>hk.elim) ?aF ?aO ?aB ?aS ?aL ?_;(case aP=>exact rfl);(case aB=>exact bl_);(case aF=>exact (fun _ _=>trivial));(case aO=>exact (xd_ HO_6.out));(case aS=>exact (adz bl_));(case aL=>have:=LMc12.out;omega);intro v714 w13 ho hb hg hat;rw [<-Ny713.out] at ho;have n_:=Zb (Za (hb)) (Za (ho));clear HB HO_6;obtain ⟨HB,HO715⟩:=n_;clear ho hb hg hat));try go_wp2_with (first|((with_reducible refine aoz (b:= .append) (xs:= #[.tmp 37, .tmp 39]) rfl ?_);at_builtin;refine Kd.bmz (Kd.int .i64) (w0:=w) w.heap.size rfl (.tmp 37) (.tmp 39) 57 3 (.int .i64 0) 8 rfl Tryz.underlying57 info3 rfl (by decide) (by omega) u6 x6_1 (wrap64 (rd l1 x8_1)) [.int .i64 (wrap64 (rd l1 x8_1))] (fun _=>True) (fun _=>False) rfl rfl ?aP (fun _ hk=>hk.elim) ?aF ?aO ?aB ?aS ?aL ?_;(case aP=>exact rfl);(case aB=>exact bl_);(case aF=>exact (fun _ _=>trivial));(case aO=>exact (xd_ HO_6.out));(case aS=>exact (adz bl_));(case aL=>have:=LMc12.out;omega);intro v714 w13 ho hb hg hat;rw [<-Ny713.out] at ho;have n_:=Zb (Za (hb)) (Za (ho));clear HB HO_6;obtain ⟨HB,HO715⟩:=n_;clear ho hb hg hat)))
  go_roundg k1
  case measure=>have:=HK1.out;omega
  case rel=>exact ⟨(y713),(wrap64 (x8_1+(wrap64 (Int.tdiv a0 8)))),sd_,H',⟨by have:=HK1.out;omega⟩,⟨xd_ HO715.out⟩,⟨bl_⟩⟩
 rw [Ya c6] at H;have c6b0:((wrap64 (Int.tdiv a0 8))==2)=true:=Ye c6;have c6b1:((wrap64 (Int.tdiv a0 8)) !=2)=false:=Yc c6;clear c6;obtain ⟨ji7,hji7⟩: ∃j_:Int,(wrap64 (x8_1+1))=j_:=⟨_,rfl⟩
 replace H:(if 0<=(ji7) then (if (ji7)<(l1.length:Int) then (if x6_1.length<17592186044416 then (aYz.l0 k1 l1 (x6_1++ [wrap64 ((wrap64 (rd l1 x8_1))+(wrap64 (256*(wrap64 (rd l1 (ji7))))))]) (wrap64 (Int.tdiv a0 8)) (wrap64 (x8_1+(wrap64 (Int.tdiv a0 8))))) else (none)) else (none)) else (none))=some (r1,r2):=by first|(rw [hji7] at H;exact H)|(simp only [hji7] at H|-;exact H)
 have hji7w:(IntKind.i64.wrap (x8_1+1))=ji7:=(i64_w _).trans hji7;by_cases c8:0<=(ji7)
 rotate_left
 ·rw [Yb c8] at H;exact Yf H (by simp)
 rw [Ya c8] at H;have c8b0:=Zd c8;clear c8;by_cases c9:(ji7)<(l1.length:Int)
 rotate_left
 ·rw [Yb c9] at H;exact Yf H (by simp)
 rw [Ya c9] at H;have c9b0:=Zd c9;clear c9;by_cases c10:x6_1.length<17592186044416
 rotate_left
 ·rw [Yb c10] at H;exact Yf H (by simp)
 rw [Ya c10] at H;have LMc10:=Za c10;clear c10;obtain ⟨y710,hy710⟩: ∃y_:List Int,y_=(x6_1++ [wrap64 ((wrap64 (rd l1 x8_1))+(wrap64 (256*(wrap64 (rd l1 (ji7))))))]):=⟨_,rfl⟩
 first|rw [Zl, <-hy710] at H|rw [<-hy710] at H
 (try dsimp only at H)
 have Ny710:=Za hy710;clear hy710;have H':=Za H;clear H;have p708:0<=(x8_1:Int):=Zc as_;have q708:x8_1<(l1.length:Int):=Zc as_;obtain ⟨ad708,e708,hx708_0⟩:=Kd.boz HR1.out x8_1 p708 q708;cases e708
 replace hx708_0:=(HB.out.cell (Zj w _ hx708_0)).trans hx708_0;replace p708:=Zz p708;replace q708:=Zz q708;have p709:0<=((ji7):Int):=Zc as_;have q709:(ji7)<(l1.length:Int):=Zc as_;obtain ⟨ad709,e709,hx709_0⟩:=Kd.boz HR1.out (ji7) p709 q709;obtain rfl:ad708=ad709:=(by injection e709);replace hx709_0:=(HB.out.cell (Zj w _ hx709_0)).trans hx709_0;replace p709:=Zz p709;replace q709:=Zz q709
 go_wp2_with (first|((with_reducible refine aoz (b:= .append) (xs:= #[.tmp 37, .tmp 39]) rfl ?_);at_builtin;refine Kd.bmz (Kd.int .i64) (w0:=w) w.heap.size rfl (.tmp 37) (.tmp 39) 57 3 (.int .i64 0) 8 rfl Tryz.underlying57 info3 rfl (by decide) (by omega) u6 x6_1 (wrap64 ((wrap64 (rd l1 x8_1))+(wrap64 (256*(wrap64 (rd l1 (ji7))))))) [.int .i64 (wrap64 ((wrap64 (rd l1 x8_1))+(wrap64 (256*(wrap64 (rd l1 (ji7)))))))] (fun _=>True) (fun _=>False) rfl rfl ?aP (fun _ hk=>hk.elim) ?aF ?aO ?aB ?aS ?aL ?_;(case aP=>exact rfl);(case aB=>exact bl_);(case aF=>exact (fun _ _=>trivial));(case aO=>exact (xd_ HO_6.out));(case aS=>exact (adz bl_));(case aL=>have:=LMc10.out;omega);intro v711 w11 ho hb hg hat;rw [<-Ny710.out] at ho;have n_:=Zb (Za (hb)) (Za (ho));clear HB HO_6;obtain ⟨HB,HO712⟩:=n_;clear ho hb hg hat))
 repeat (go_quiet (first|((with_reducible refine aoz (b:= .append) (xs:= #[.tmp 37, .tmp 39]) rfl ?_);at_builtin;refine Kd.bmz (Kd.int .i64) (w0:=w) w.heap.size rfl (.tmp 37) (.tmp 39) 57 3 (.int .i64 0) 8 rfl Tryz.underlying57 info3 rfl (by decide) (by omega) u6 x6_1 (wrap64 ((wrap64 (rd l1 x8_1))+(wrap64 (256*(wrap64 (rd l1 (ji7))))))) [.int .i64 (wrap64 ((wrap64 (rd l1 x8_1))+(wrap64 (256*(wrap64 (rd l1 (ji7)))))))] (fun _=>True) (fun _=>False) rfl rfl ?aP (fun _ hk=>hk.elim) ?aF ?aO ?aB ?aS ?aL ?_;(case aP=>exact rfl);(case aB=>exact bl_);(case aF=>exact (fun _ _=>trivial));(case aO=>exact (xd_ HO_6.out));(case aS=>exact (adz bl_));(case aL=>have:=LMc10.out;omega);intro v711 w11 ho hb hg hat;rw [<-Ny710.out] at ho;have n_:=Zb (Za (hb)) (Za (ho));clear HB HO_6;obtain ⟨HB,HO712⟩:=n_;clear ho hb hg hat));try go_wp2_with (first|((with_reducible refine aoz (b:= .append) (xs:= #[.tmp 37, .tmp 39]) rfl ?_);at_builtin;refine Kd.bmz (Kd.int .i64) (w0:=w) w.heap.size rfl (.tmp 37) (.tmp 39) 57 3 (.int .i64 0) 8 rfl Tryz.underlying57 info3 rfl (by decide) (by omega) u6 x6_1 (wrap64 ((wrap64 (rd l1 x8_1))+(wrap64 (256*(wrap64 (rd l1 (ji7))))))) [.int .i64 (wrap64 ((wrap64 (rd l1 x8_1))+(wrap64 (256*(wrap64 (rd l1 (ji7)))))))] (fun _=>True) (fun _=>False) rfl rfl ?aP (fun _ hk=>hk.elim) ?aF ?aO ?aB ?aS ?aL ?_;(case aP=>exact rfl);(case aB=>exact bl_);(case aF=>exact (fun _ _=>trivial));(case aO=>exact (xd_ HO_6.out));(case aS=>exact (adz bl_));(case aL=>have:=LMc10.out;omega);intro v711 w11 ho hb hg hat;rw [<-Ny710.out] at ho;have n_:=Zb (Za (hb)) (Za (ho));clear HB HO_6;obtain ⟨HB,HO712⟩:=n_;clear ho hb hg hat)))
 go_roundg k1
 case measure=>have:=HK1.out;omega
 case rel=>exact ⟨(y710),(wrap64 (x8_1+(wrap64 (Int.tdiv a0 8)))),sd_,H',⟨by have:=HK1.out;omega⟩,⟨xd_ HO712.out⟩,⟨bl_⟩⟩
def aZz.l0:Nat->Int->List Int->List Int->Int->Option (List Int×Bool)
 |0,_,_,_,_=>none
 |k+1,x0,x1,x6,x7=>if x7<(x1.length:Int) then (if 0<=x7 then ((afz.f k x0 (rd x1 x7)).bind fun t717=>(if t717=true then (if x6.length<140737488355328 then ((some (x6++ [(Int.tmod (rd x1 x7) 256) % 256] :List Int)).bind fun y719=>(if x0=16 then (if y719.length<140737488355328 then (aZz.l0 k x0 x1 (y719++ [(wrap64 (Int.tdiv (rd x1 x7) 256)) % 256]) (wrap64 (x7+1))) else (none)) else (aZz.l0 k x0 x1 y719 (wrap64 (x7+1))))) else (none)) else (some (([] :List Int),false)))) else (none)) else (some (x6,true))
def aZz.f (k:Nat) (a0:Int) (l1:List Int):Option (List Int×Bool):=aZz.l0 k a0 l1 ([] :List Int) 0
theorem aZz.calls (k : Nat) (a0 : Int) (A1 : Option Addr) (c1 : Nat) (l1 : List Int) (r1 : List Int) (r2 : Bool) (w : World) (hr1 : Kd.C (Kd.int .i64) w A1 l1.length l1) (hc1 : l1.length <= c1) (h : aZz.f k a0 l1 = some (r1, r2)) :
  Calls Tryz.prog 108 #[.int .i64 a0, .slice A1 l1.length c1] w fun e w'=> ∃v0_:Value,e= .returned (.tuple #[v0_, .bool r2])/\Kd.R (Kd.int .u8) 5 w' w.heap.size (fun _=>True) v0_ r1/\Below w.heap.size w w':=by
 have HR1:=Za hr1;have HC1:=Za hc1;clear hr1 hc1;have HB:=Za (Zw w.heap.size w);have H:=h;clear h;unfold aZz.f at H;have H':=Za H;clear H;go_enter Tryz.func108,Tryz.ntmps108;go_wp2
 go_loopg [6,7] k (fun kq v6 v7 w'=> ∃(x6_1:List Int) (x7_1:Int),v7= .int .i64 x7_1/\Aside0 (aZz.l0 kq a0 l1 x6_1 x7_1=some (r1,r2))/\Aside0 (kq<=k)/\Aside0 (Kd.R (Kd.int .u8) 5 w' w.heap.size (fun _=>True) v6 x6_1)/\Aside0 (Below w.heap.size w w'))
 case atStart=>exact ⟨(([] :List Int)),(0),sd_,H',⟨Zv _⟩,⟨nl_⟩,⟨bl_⟩⟩
 clear H';obtain ⟨x6_1,x7_1,rfl,HA,HK1,HO_6,HB⟩:=hrel;rcases gk with _|k1
 ·exact Yf HA.out (by simp [aZz.l0])
 have H:=HA.out;clear HA;simp only [aZz.l0] at H;by_cases c3:x7_1<(l1.length:Int)
 rotate_left
 ·rw [Yb c3] at H;have c3b0:=Ze c3;clear c3;simp only [Zx,Zy] at H;obtain ⟨rfl,rfl⟩:=H;go_wp2;go_ret2;exact ⟨_,er_,xd_ HO_6.out,bl_⟩
 rw [Ya c3] at H;have c3b0:=Zd c3;clear c3;by_cases c4:0<=x7_1
 rotate_left
 ·rw [Yb c4] at H;exact Yf H (by simp)
 rw [Ya c4] at H;have c4b0:=Zd c4;clear c4;obtain ⟨t717,A5,H⟩:=ob_ H
 (try dsimp only at H)
 by_cases c6:t717=true
 rotate_left
 ·replace c6:=Zr c6;subst c6;rw [Yb (show¬(false=true) by decide)] at H;simp only [Zx,Zy] at H;obtain ⟨rfl,rfl⟩:=H;have p716:0<=(x7_1:Int):=Zc as_;have q716:x7_1<(l1.length:Int):=Zc as_;obtain ⟨ad716,e716,hx716_0⟩:=Kd.boz HR1.out x7_1 p716 q716;cases e716
  replace hx716_0:=(HB.out.cell (Zj w _ hx716_0)).trans hx716_0;replace p716:=Zz p716;replace q716:=Zz q716
  go_wp2_with (first|((with_reducible refine aaz (f:=106) rfl ?_);refine gl_ (some 19) Tryz.func106 #[.int .i64 a0, .int .i64 (rd l1 x7_1)] ?_;(with_reducible refine (afz.calls k1 a0 (rd l1 x7_1) false _ A5.out).mono ?_);rintro e w' ⟨rfl,⟨nd,rfl⟩⟩;refine ⟨_,rfl,?_⟩))
  go_ret2;exact ⟨_,er_,nl_,bl_⟩
 subst c6;rw [Ya rfl] at H;by_cases c7:x6_1.length<140737488355328
 rotate_left
 ·rw [Yb c7] at H;exact Yf H (by simp)
 rw [Ya c7] at H;have LMc7:=Za c7;clear c7;obtain ⟨y719,hy719⟩: ∃y_:List Int,y_=(x6_1++ [(Int.tmod (rd l1 x7_1) 256) % 256]):=⟨_,rfl⟩
 first|rw [Zl, <-hy719] at H|rw [<-hy719] at H
 (try dsimp only at H)
 have Ny719:=Za hy719;clear hy719;by_cases c8:a0=16
 rotate_left
 ·rw [Yb c8] at H;have c8b0:(a0==16)=false:=Zq c8;have c8b1:(a0 !=16)=true:=Yd c8;have H':=Za H;clear H;have p716:0<=(x7_1:Int):=Zc as_;have q716:x7_1<(l1.length:Int):=Zc as_;obtain ⟨ad716,e716,hx716_0⟩:=Kd.boz HR1.out x7_1 p716 q716;cases e716
  replace hx716_0:=(HB.out.cell (Zj w _ hx716_0)).trans hx716_0;replace p716:=Zz p716;replace q716:=Zz q716
  go_wp2_with (first|((with_reducible refine aaz (f:=106) rfl ?_);refine gl_ (some 19) Tryz.func106 #[.int .i64 a0, .int .i64 (rd l1 x7_1)] ?_;(with_reducible refine (afz.calls k1 a0 (rd l1 x7_1) true _ A5.out).mono ?_);rintro e w' ⟨rfl,⟨nd,rfl⟩⟩;refine ⟨_,rfl,?_⟩;have p718:0<=(x7_1:Int):=Zc as_;have q718:x7_1<(l1.length:Int):=Zc as_;obtain ⟨ad718,e718,hx718_0⟩:=Kd.boz HR1.out x7_1 p718 q718;obtain rfl:ad716=ad718:=(by injection e718);replace hx718_0:=(HB.out.cell (Zj w _ hx718_0)).trans hx718_0;replace p718:=Zz p718;replace q718:=Zz q718)|((with_reducible refine aoz (b:= .append) (xs:= #[.tmp 21, .tmp 28]) rfl ?_);at_builtin;refine Kd.bmz (Kd.int .u8) (w0:=w) w.heap.size rfl (.tmp 21) (.tmp 28) 34 5 (.int .u8 0) 1 rfl Tryz.underlying34 info5 rfl (by decide) (by omega) u6 x6_1 ((Int.tmod (rd l1 x7_1) 256) % 256) [.int .u8 ((Int.tmod (rd l1 x7_1) 256) % 256)] (fun _=>True) (fun _=>False) rfl rfl ?aP (fun _ hk=>hk.elim) ?aF ?aO ?aB ?aS ?aL ?_;(case aP=>exact rfl);(case aB=>exact bl_);(case aF=>exact (fun _ _=>trivial));(case aO=>exact (xd_ HO_6.out));(case aS=>exact (adz bl_));(case aL=>have:=LMc7.out;omega);intro v720 w12 ho hb hg hat;rw [<-Ny719.out] at ho;have n_:=Zb (Za (hb)) (Za (ho));clear HB HO_6;obtain ⟨HB,HO721⟩:=n_;clear ho hb hg hat))
  go_roundg k1
  case measure=>have:=HK1.out;omega
  case rel=>exact ⟨(y719),(wrap64 (x7_1+1)),sd_,H',⟨by have:=HK1.out;omega⟩,⟨xd_ HO721.out⟩,⟨bl_⟩⟩
 rw [Ya c8] at H;have c8b0:(a0==16)=true:=Ye c8;have c8b1:(a0 !=16)=false:=Yc c8;clear c8;by_cases c9:y719.length<140737488355328
 rotate_left
 ·rw [Yb c9] at H;exact Yf H (by simp)
 rw [Ya c9] at H;have LMc9:=Za c9;clear c9;obtain ⟨y723,hy723⟩: ∃y_:List Int,y_=(y719++ [(wrap64 (Int.tdiv (rd l1 x7_1) 256)) % 256]):=⟨_,rfl⟩
 first|rw [Zl, <-hy723] at H|rw [<-hy723] at H
 (try dsimp only at H)
 have Ny723:=Za hy723;clear hy723;have H':=Za H;clear H;have p716:0<=(x7_1:Int):=Zc as_;have q716:x7_1<(l1.length:Int):=Zc as_;obtain ⟨ad716,e716,hx716_0⟩:=Kd.boz HR1.out x7_1 p716 q716;cases e716
 replace hx716_0:=(HB.out.cell (Zj w _ hx716_0)).trans hx716_0;replace p716:=Zz p716;replace q716:=Zz q716
 go_wp2_with (first|((with_reducible refine aaz (f:=106) rfl ?_);refine gl_ (some 19) Tryz.func106 #[.int .i64 a0, .int .i64 (rd l1 x7_1)] ?_;(with_reducible refine (afz.calls k1 a0 (rd l1 x7_1) true _ A5.out).mono ?_);rintro e w' ⟨rfl,⟨nd,rfl⟩⟩;refine ⟨_,rfl,?_⟩;have p718:0<=(x7_1:Int):=Zc as_;have q718:x7_1<(l1.length:Int):=Zc as_;obtain ⟨ad718,e718,hx718_0⟩:=Kd.boz HR1.out x7_1 p718 q718;obtain rfl:ad716=ad718:=(by injection e718);replace hx718_0:=(HB.out.cell (Zj w _ hx718_0)).trans hx718_0;replace p718:=Zz p718;replace q718:=Zz q718)|((with_reducible refine aoz (b:= .append) (xs:= #[.tmp 21, .tmp 28]) rfl ?_);at_builtin;refine Kd.bmz (Kd.int .u8) (w0:=w) w.heap.size rfl (.tmp 21) (.tmp 28) 34 5 (.int .u8 0) 1 rfl Tryz.underlying34 info5 rfl (by decide) (by omega) u6 x6_1 ((Int.tmod (rd l1 x7_1) 256) % 256) [.int .u8 ((Int.tmod (rd l1 x7_1) 256) % 256)] (fun _=>True) (fun _=>False) rfl rfl ?aP (fun _ hk=>hk.elim) ?aF ?aO ?aB ?aS ?aL ?_;(case aP=>exact rfl);(case aB=>exact bl_);(case aF=>exact (fun _ _=>trivial));(case aO=>exact (xd_ HO_6.out));(case aS=>exact (adz bl_));(case aL=>have:=LMc7.out;omega);intro v720 w10 ho hb hg hat;rw [<-Ny719.out] at ho;have n_:=Zb (Za (hb)) (Za (ho));clear HB HO_6;obtain ⟨HB,HO721⟩:=n_;clear ho hb hg hat;have p722:0<=(x7_1:Int):=Zc as_;have q722:x7_1<(l1.length:Int):=Zc as_;obtain ⟨ad722,e722,hx722_0⟩:=Kd.boz HR1.out x7_1 p722 q722;obtain rfl:ad716=ad722:=(by injection e722);replace hx722_0:=(HB.out.cell (Zj w _ hx722_0)).trans hx722_0;replace p722:=Zz p722;replace q722:=Zz q722)|((with_reducible refine aoz (b:= .append) (xs:= #[.tmp 32, .tmp 39]) rfl ?_);at_builtin;refine Kd.bmz (Kd.int .u8) (w0:=w) w.heap.size rfl (.tmp 32) (.tmp 39) 34 5 (.int .u8 0) 1 rfl Tryz.underlying34 info5 rfl (by decide) (by omega) v720 y719 ((wrap64 (Int.tdiv (rd l1 x7_1) 256)) % 256) [.int .u8 ((wrap64 (Int.tdiv (rd l1 x7_1) 256)) % 256)] (fun _=>True) (fun _=>False) rfl rfl ?aP (fun _ hk=>hk.elim) ?aF ?aO ?aB ?aS ?aL ?_;(case aP=>exact rfl);(case aB=>exact bl_);(case aF=>exact (fun _ _=>trivial));(case aO=>exact (xd_ HO721.out));(case aS=>exact (adz bl_));(case aL=>have:=LMc9.out;omega);intro v724 w11 ho hb hg hat;rw [<-Ny723.out] at ho;have n_:=Zb (Za (hb)) (Za (ho));clear HB HO721;obtain ⟨HB,HO725⟩:=n_;clear ho hb hg hat))
 go_roundg k1
 case measure=>have:=HK1.out;omega
 case rel=>exact ⟨(y723),(wrap64 (x7_1+1)),sd_,H',⟨by have:=HK1.out;omega⟩,⟨xd_ HO725.out⟩,⟨bl_⟩⟩
mutual
def a1z.j0:Nat->Int->Int->Int->List Int->Bool->Option (List Int×Bool)
 |0,_,_,_,_,_=>none
 |k+1,x0,x1,x2,x10,x27=>if x27=true then (some (([] :List Int),false)) else (a1z.l0 k x0 x1 x2 x10 ([] :List Int) 0)
def a1z.l0:Nat->Int->Int->Int->List Int->List Int->Int->Option (List Int×Bool)
 |0,_,_,_,_,_,_=>none
 |k+1,x0,x1,x2,x10,x12,x13=>if x13<(x10.length:Int) then (if 0<=x13 then ((aAz.f k x0 x1 x2 (rd x10 x13)).bind fun t732=>(if x12.length<17592186044416 then (a1z.l0 k x0 x1 x2 x10 (x12++ [t732]) (wrap64 (x13+1))) else (none))) else (none)) else ((aZz.f k x0 x12).bind fun bt736=>(some (bt736.1,bt736.2)))
end
def a1z.f (k:Nat) (a0:Int) (a1:Int) (a2:Int) (l3:List Int):Option (List Int×Bool):=(aYz.f k a0 l3).bind fun bt726=>(if bt726.2=true then ((afz.f k a0 a2).bind fun t730=>(a1z.j0 k a0 a1 a2 bt726.1 (!t730))) else (a1z.j0 k a0 a1 a2 bt726.1 true))
theorem a1z.calls (k : Nat) (a0 : Int) (a1 : Int) (a2 : Int) (A3 : Option Addr) (c3 : Nat) (l3 : List Int) (r1 : List Int) (r2 : Bool) (w : World) (hr3 : Kd.C (Kd.int .u8) w A3 l3.length l3) (hc3 : l3.length <= c3) (h : a1z.f k a0 a1 a2 l3 = some (r1, r2)) :
  Calls Tryz.prog 71 #[.int .i64 a0, .int .u32 a1, .int .i64 a2, .slice A3 l3.length c3] w fun e w'=> ∃v0_:Value,e= .returned (.tuple #[v0_, .bool r2])/\Kd.R (Kd.int .u8) 5 w' w.heap.size (fun _=>True) v0_ r1/\Below w.heap.size w w':=by
 have HR3:=Za hr3;have HC3:=Za hc3;clear hr3 hc3;have HB:=Za (Zw w.heap.size w);have H:=h;clear h;unfold a1z.f at H;obtain ⟨⟨t726,t727⟩,A5,H⟩:=ob_ H
 (try dsimp only at H)
 have HC6:=Za H;clear H;go_enter Tryz.func71,Tryz.ntmps71
 go_upto_region 2 with (first|((with_reducible refine aaz (f:=105) rfl ?_);refine gl_ (some 17) Tryz.func105 #[.int .i64 a0, .slice A3 l3.length c3] ?_;(with_reducible refine (aYz.calls k a0 _ _ l3 t726 t727 _ (xd_ HR3.out) (HC3.out) A5.out).mono ?_);rintro e w7 ⟨v728,rfl,ho0,hb⟩;refine ⟨_,rfl,?_⟩;have n_:=Zb (Za (Kd.bAz ho0 (adz bl_))) (hs_ HB hb);clear HB;obtain ⟨HO729,HB⟩:=n_;clear hb ho0))
 (try simp only [Act.put,Zg,Zh,Zi])
 go_cut [27] (fun v27 wc=> ∃(kq:Nat) (x27_5:Bool),v27= .bool x27_5/\Aside0 (a1z.j0 kq a0 a1 a2 t726 x27_5=some (r1,r2))/\Aside0 (kq<=k)/\Aside0 (Kd.R (Kd.int .i64) 3 wc w.heap.size (fun _=>True) v728 t726)/\Aside0 (Below w.heap.size w wc))
 case first=>
  have H:=HC6.out;clear HC6;by_cases c8:t727=true
  ·subst c8;rw [Ya rfl] at H;obtain ⟨t730,A9,H⟩:=ob_ H
   (try dsimp only at H)
   have H':=Za H;clear H
   go_wp2_with (first|(go_at_call 106;(with_reducible refine (afz.calls k a0 a2 t730 _ A9.out).mono ?_);rintro e w' ⟨rfl,⟨nd,rfl⟩⟩))
   go_meet
   case rel=>exact ⟨_,(!t730),sd_,H',⟨by first|omega|exact Zv _⟩,⟨xd_ HO729.out⟩,⟨bl_⟩⟩
  ·replace c8:=Zr c8;subst c8;rw [Yb (show¬(false=true) by decide)] at H;have H':=Za H;clear H;go_wp2
   go_meet
   case rel=>exact ⟨_,(true),sd_,H',⟨by first|omega|exact Zv _⟩,⟨xd_ HO729.out⟩,⟨bl_⟩⟩
 case rest=>
  clear HC6;obtain ⟨kq,x27_5,rfl,HA,HJ5,HO_10,HB⟩:=hcut;rcases kq with _|kj5
  ·exact Yf HA.out (by simp [a1z.j0])
  have H:=HA.out;clear HA;simp only [a1z.j0] at H;by_cases c10:x27_5=true
  ·subst c10;rw [Ya rfl] at H;simp only [Zx,Zy] at H;obtain ⟨rfl,rfl⟩:=H;go_wp2;go_ret2;exact ⟨_,er_,nl_,bl_⟩
  ·replace c10:=Zr c10;subst c10;rw [Yb (show¬(false=true) by decide)] at H;have H':=Za H;clear H;go_wp2
   go_loopg [12,13] kj5 (fun kq v12 v13 w'=> ∃(x12_2:List Int) (x13_2:Int),v13= .int .i64 x13_2/\Aside0 (a1z.l0 kq a0 a1 a2 t726 x12_2 x13_2=some (r1,r2))/\Aside0 (kq<=kj5)/\Aside0 (Kd.R (Kd.int .i64) 3 w' w.heap.size (fun k_=>some k_≠(v12:Value).ownBlock) v728 t726)/\Aside0 (Kd.R (Kd.int .i64) 3 w' w.heap.size (fun k_=>some k_≠(v728:Value).ownBlock) v12 x12_2)/\Aside0 (Below w.heap.size w w'))
   case atStart=>exact ⟨(([] :List Int)),(0),sd_,H',⟨Zv _⟩,⟨rm_ HO_10⟩,⟨nl_⟩,⟨bl_⟩⟩
   clear H';obtain ⟨x12_2,x13_2,rfl,HA,HK2,HO_10,HO_12,HB⟩:=hrel;rcases gk with _|k2
   ·exact Yf HA.out (by simp [a1z.l0])
   have H:=HA.out;clear HA;simp only [a1z.l0] at H;by_cases c11:x13_2<(t726.length:Int)
   rotate_left
   ·rw [Yb c11] at H;have c11b0:=Ze c11;clear c11;obtain ⟨⟨t736,t737⟩,A17,H⟩:=ob_ H
    (try dsimp only at H)
    simp only [Zx,Zy] at H;obtain ⟨rfl,rfl⟩:=H;obtain ⟨Ao18,co18,eo18⟩:=Kd.a3z HO_10.out;subst eo18;obtain ⟨Ao19,co19,eo19⟩:=Kd.a3z HO_12.out;subst eo19
    go_wp2_with (first|((with_reducible refine aaz (f:=108) rfl ?_);refine gl_ (some 47) Tryz.func108 #[.int .i64 a0, .slice Ao19 x12_2.length co19] ?_;(with_reducible refine (aZz.calls k2 a0 _ _ x12_2 t736 t737 _ (xd_ (Kd.aPz HO_12.out).2.2) ((Kd.aPz HO_12.out).2.1) A17.out).mono ?_);rintro e w20 ⟨v738,rfl,ho0,hb⟩;refine ⟨_,rfl,?_⟩;have n_:=Zb (Za (Kd.bUz (xd_ HO_10.out) hb)) (Zb (Za (Kd.bUz (xd_ HO_12.out) hb)) (Zb (Za (Kd.bAz ho0 (adz bl_))) (hs_ HB hb)));clear HO_10 HO_12 HB;obtain ⟨HO_10,HO_12,HO739,HB⟩:=n_;clear hb ho0))
    go_ret2;exact ⟨_,er_,xd_ HO739.out,bl_⟩
   rw [Ya c11] at H;have c11b0:=Zd c11;clear c11;by_cases c12:0<=x13_2
   rotate_left
   ·rw [Yb c12] at H;exact Yf H (by simp)
   rw [Ya c12] at H;have c12b0:=Zd c12;clear c12;obtain ⟨t732,A13,H⟩:=ob_ H
   (try dsimp only at H)
   by_cases c14:x12_2.length<17592186044416
   rotate_left
   ·rw [Yb c14] at H;exact Yf H (by simp)
   rw [Ya c14] at H;have LMc14:=Za c14;clear c14;obtain ⟨y733,hy733⟩: ∃y_:List Int,y_=(x12_2++ [t732]):=⟨_,rfl⟩
   first|rw [Zl, <-hy733] at H|rw [<-hy733] at H
   (try dsimp only at H)
   have Ny733:=Za hy733;clear hy733;have H':=Za H;clear H;obtain ⟨Ao15,co15,eo15⟩:=Kd.a3z HO_10.out;subst eo15;have p731:0<=(x13_2:Int):=Zc as_;have q731:x13_2<(t726.length:Int):=Zc as_;obtain ⟨ad731,e731,hx731_0⟩:=Kd.boz (Kd.aPz HO_10.out).2.2 x13_2 p731 q731;cases e731
   replace p731:=Zz p731;replace q731:=Zz q731
   go_wp2_with (first|((with_reducible refine aaz (f:=107) rfl ?_);refine gl_ (some 42) Tryz.func107 #[.int .i64 a0, .int .u32 a1, .int .i64 a2, .int .i64 (rd t726 x13_2)] ?_;(with_reducible refine (aAz.calls k2 a0 a1 a2 (rd t726 x13_2) t732 _ A13.out).mono ?_);rintro e w' ⟨rfl,⟨nd,rfl⟩⟩;refine ⟨_,rfl,?_⟩)|((with_reducible refine aoz (b:= .append) (xs:= #[.tmp 34, .tmp 43]) rfl ?_);at_builtin;refine Kd.bmz (Kd.int .i64) (w0:=w) w.heap.size rfl (.tmp 34) (.tmp 43) 57 3 (.int .i64 0) 8 rfl Tryz.underlying57 info3 rfl (by decide) (by omega) u12 x12_2 t732 [.int .i64 t732] (fun k_=>some k_≠(.slice (some ad731) t726.length co15:Value).ownBlock) (fun _=>False) rfl rfl ?aP (fun _ hk=>hk.elim) ?aF ?aO ?aB ?aS ?aL ?_;(case aP=>exact rfl);(case aB=>exact bl_);(case aF=>exact (fun k_ hk=>Kd.fresh' (Kd.R_lt (xd_ HO_10.out)) k_ hk));(case aO=>exact (xd_ HO_12.out));(case aS=>exact (adz bl_));(case aL=>have:=LMc14.out;omega);intro v734 w16 ho hb hg hat;rw [<-Ny733.out] at ho;have n_:=Zb (Za (Kd.R_after (ok:=(fun _=>True)) (rm_ HO_10) hg hat)) (Zb (Za (hb)) (Za (ho)));clear HO_10 HB HO_12;obtain ⟨HO_10,HB,HO735⟩:=n_;clear ho hb hg hat))
   go_roundg k2
   case measure=>have:=HJ5.out;have:=HK2.out;omega
   case rel=>exact ⟨(y733),(wrap64 (x13_2+1)),sd_,H',⟨by have:=HJ5.out;have:=HK2.out;omega⟩,⟨rm_ HO_10⟩,⟨xd_ HO735.out⟩,⟨bl_⟩⟩
mutual
def alz.j0:Nat->Int->Int->List Int->List (List Int)->Bool->Option (List Int×Bool)
 |0,_,_,_,_,_=>none
 |k+1,x0,x1,x2,x3,x25=>if x25=true then (some (([] :List Int),false)) else (alz.l0 k x0 x1 x2 x3 ([] :List Int) 0)
def alz.l0:Nat->Int->Int->List Int->List (List Int)->List Int->Int->Option (List Int×Bool)
 |0,_,_,_,_,_,_=>none
 |k+1,x0,x1,x2,x3,x10,x11=>if x11<(x2.length:Int) then (if 0<=x11 then (if x11<(x3.length:Int) then ((a1z.f k x0 x1 (rd x2 x11) (rd_L1 x3 x11)).bind fun bt742=>(if bt742.2=true then (if 0<(x3.length:Int) then (alz.j2 k x0 x1 x2 x3 x10 x11 bt742.1 (((rd_L1 x3 x11).length:Int) !=((rd_L1 x3 0).length:Int))) else (none)) else (alz.j2 k x0 x1 x2 x3 x10 x11 bt742.1 true))) else (none)) else (none)) else (some (x10,true))
def alz.j2:Nat->Int->Int->List Int->List (List Int)->List Int->Int->List Int->Bool->Option (List Int×Bool)
 |0,_,_,_,_,_,_,_,_=>none
 |k+1,x0,x1,x2,x3,x10,x11,x12,x59=>if x59=true then (some (([] :List Int),false)) else (if x11=0 then (alz.l0 k x0 x1 x2 x3 x12 (wrap64 (x11+1))) else ((aWz.f k x10 x12).bind fun bt748=>(alz.l0 k x0 x1 x2 x3 bt748.1 (wrap64 (x11+1)))))
end
def alz.f (k:Nat) (a0:Int) (a1:Int) (l2:List Int) (l3:List (List Int)):Option (List Int×Bool):=if (l2.length:Int)=(l3.length:Int) then (alz.j0 k a0 a1 l2 l3 ((l2.length:Int)==0)) else (alz.j0 k a0 a1 l2 l3 true)
def alz.T7:Bool×List (List Nat×List Nat):=(true, [([], []),([], []),([], []),([], []),([2,3], [2,3]),([4], [4]),([], []),([], []),([6,7], [6,7]),([8], [8]),([0,1,5,9], [0,1,5,9]),([10], [10]),([11], [11]),([11], [11]),([12,10,0,1,2,3,4,5,6,7,8,9,10,11,12], [12]),([13,14,0,1,2,3,4,5,6,7,8,9,10,11,12,13,14], [13])])
def alz.B7:List Nat:= [0,0,0,0,12,28,0,0,192,448,1023,2047,4095,4095,8191,32767]
theorem alz.tab7:rtab .any (opsOf Tryz.f52 7)=alz.T7:=by kernel_rfl
theorem alz.bits7:waitsOk alz.T7.2 alz.B7=true:=by kernel_rfl
def alz.T8:Bool×List (List Nat×List Nat):=(true, [([], []),([0], [0]),([1], [1]),([2], [2]),([2], [2]),([3,4,2], [2,3,4]),([5,2], [2,5]),([6,2], [2,6]),([2], [2]),([8,2], [2,8]),([9,2], [2,9]),([10,2], [2,10]),([7,11,2], [2,7,11]),([2,12], [2,12])])
def alz.B8:List Nat:= [0,1,3,7,7,31,63,127,7,263,775,1799,4095,8191]
theorem alz.tab8:rtab .any (opsOf Tryz.f52 8)=alz.T8:=by kernel_rfl
theorem alz.bits8:waitsOk alz.T8.2 alz.B8=true:=by kernel_rfl
theorem alz.calls (k : Nat) (a0 : Int) (a1 : Int) (A2 : Option Addr) (c2 : Nat) (l2 : List Int) (A3 : Option Addr) (c3 : Nat) (l3 : List (List Int)) (r1 : List Int) (r2 : Bool) (w : World) (hr2 : Kd.C (Kd.int .i64) w A2 l2.length l2) (hc2 : l2.length <= c2) (hr3 : Kd.C (Kd.slice 5 (Kd.int .u8)) w A3 l3.length l3) (hc3 : l3.length <= c3) (h : alz.f k a0 a1 l2 l3 = some (r1, r2)) :
  Calls Tryz.prog 52 #[.int .i64 a0, .int .u32 a1, .slice A2 l2.length c2, .slice A3 l3.length c3] w fun e w'=> ∃v0_:Value,e= .returned (.tuple #[v0_, .bool r2])/\Kd.R (Kd.int .u8) 5 w' w.heap.size (fun _=>True) v0_ r1/\Below w.heap.size w w':=by
 have HR2:=Za hr2;have HC2:=Za hc2;clear hr2 hc2;have HR3:=Za hr3;have HC3:=Za hc3;clear hr3 hc3;have HB:=Za (Zw w.heap.size w);have H:=h;clear h;unfold alz.f at H;have HC5:=Za H;clear H;go_enter Tryz.func52,Tryz.ntmps52
 go_upto_region 1 with (fail)
 go_cut [25] (fun v25 wc=> ∃(kq:Nat) (x25_4:Bool),v25= .bool x25_4/\Aside0 (alz.j0 kq a0 a1 l2 l3 x25_4=some (r1,r2))/\Aside0 (kq<=k)/\Aside0 (Below w.heap.size w wc))
 case first=>
  have H:=HC5.out;clear HC5;by_cases c6:(l2.length:Int)=(l3.length:Int)
  ·rw [Ya c6] at H;have c6b0:((l2.length:Int)==(l3.length:Int))=true:=Ye c6;have c6b1:((l2.length:Int) !=(l3.length:Int))=false:=Yc c6
   have c6b2:(l2.length==l3.length)=true:=by first|simpa using c6|(simp at c6|-;omega)
   clear c6
   (first|rw [c6b0] |(simp only [i64_w,i32_w];rw [c6b0])|skip)
   have H':=Za H;clear H;go_wp2
   go_meet
   case rel=>exact ⟨_,(((l2.length:Int)==0)),sd_,H',⟨by first|omega|exact Zv _⟩,⟨bl_⟩⟩
  ·rw [Yb c6] at H;have c6b0:((l2.length:Int)==(l3.length:Int))=false:=Zq c6;have c6b1:((l2.length:Int) !=(l3.length:Int))=true:=Yd c6
   have c6b2:(l2.length==l3.length)=false:=by first|simpa using c6|(simp at c6|-;omega)
   (first|rw [c6b0] |(simp only [i64_w,i32_w];rw [c6b0])|skip)
   have H':=Za H;clear H;go_wp2
   go_meet
   case rel=>exact ⟨_,(true),sd_,H',⟨by first|omega|exact Zv _⟩,⟨bl_⟩⟩
 case rest=>
  clear HC5;obtain ⟨kq,x25_4,rfl,HA,HJ4,HB⟩:=hcut;rcases kq with _|kj4
  ·exact Yf HA.out (by simp [alz.j0])
  have H:=HA.out;clear HA;simp only [alz.j0] at H;by_cases c7:x25_4=true
  ·subst c7;rw [Ya rfl] at H;simp only [Zx,Zy] at H;obtain ⟨rfl,rfl⟩:=H;go_wp2;go_ret2;exact ⟨_,er_,nl_,bl_⟩
  ·replace c7:=Zr c7;subst c7;rw [Yb (show¬(false=true) by decide)] at H;have H':=Za H;clear H;go_wp2
   go_loopg [10,11] kj4 (fun kq v10 v11 w'=> ∃(x10_2:List Int) (x11_2:Int),v11= .int .i64 x11_2/\Aside0 (alz.l0 kq a0 a1 l2 l3 x10_2 x11_2=some (r1,r2))/\Aside0 (kq<=kj4)/\Aside0 (Kd.R (Kd.int .u8) 5 w' w.heap.size (fun _=>True) v10 x10_2)/\Aside0 (Below w.heap.size w w'))
   case atStart=>exact ⟨(([] :List Int)),(0),sd_,H',⟨Zv _⟩,⟨nl_⟩,⟨bl_⟩⟩
   clear H';obtain ⟨x10_2,x11_2,rfl,HA,HK2,HO_10,HB⟩:=hrel;rcases gk with _|k2
   ·exact Yf HA.out (by simp [alz.l0])
   have H:=HA.out;clear HA;simp only [alz.l0] at H;by_cases c8:x11_2<(l2.length:Int)
   rotate_left
   ·rw [Yb c8] at H;have c8b0:=Ze c8;clear c8;simp only [Zx,Zy] at H;obtain ⟨rfl,rfl⟩:=H;go_wp2;go_ret2;exact ⟨_,er_,xd_ HO_10.out,bl_⟩
   rw [Ya c8] at H;have c8b0:=Zd c8;clear c8;by_cases c9:0<=x11_2
   rotate_left
   ·rw [Yb c9] at H;exact Yf H (by simp)
   rw [Ya c9] at H;have c9b0:=Zd c9;clear c9;by_cases c10:x11_2<(l3.length:Int)
   rotate_left
   ·rw [Yb c10] at H;exact Yf H (by simp)
   rw [Ya c10] at H;have c10b0:=Zd c10;clear c10;obtain ⟨⟨t742,t743⟩,A11,H⟩:=ob_ H
   (try dsimp only at H)
   have HC12:=Za H;clear H
   try go_wp2
   have n_:=Zb (Za (Kd.b5z HO_10.out)) (Za (bTz HB.out));clear HO_10 HB;obtain ⟨HO_10,HB⟩:=n_;have p740:0<=(x11_2:Int):=Zc as_;have q740:x11_2<(l2.length:Int):=Zc as_;obtain ⟨ad740,e740,hx740_0⟩:=Kd.boz HR2.out x11_2 p740 q740;have hw740_0:=hx740_0;cases e740
   replace hx740_0:=(HB.out.cell (Zj w _ hx740_0)).trans hx740_0;replace p740:=Zz p740;replace q740:=Zz q740;have p741:0<=(x11_2:Int):=Zc as_;have q741:x11_2<(l3.length:Int):=Zc as_;obtain ⟨ad741,A741_0,c741_0,e741,hx741_0,hl741_0,hi741_0⟩:=at_L1 HR3.out x11_2 p741 q741;have hw741_0:=hx741_0;cases e741
   replace hx741_0:=(HB.out.cell (Zj w _ hx741_0)).trans hx741_0;have HR741_0:=Za hi741_0;have HC741_0:=Za hl741_0;clear hi741_0 hl741_0;replace p741:=Zz p741;replace q741:=Zz q741;refine bPz (n:=16) (S:=fun w'=>w'.cell? (ad740.add (x11_2).toNat)=some (.int .i64 (rd l2 x11_2))/\w'.cell? (ad741.add (x11_2).toNat)=some (.slice A741_0 (rd_L1 l3 x11_2).length c741_0)) (ds:= []) (bA 16 0) kr_ rfl rfl ⟨((HB.out.cell (Zj w _ hw740_0)).trans hw740_0),((HB.out.cell (Zj w _ hw741_0)).trans hw741_0)⟩ (fun hHeld=> ?_);refine cdz alz.tab7 alz.bits7 (fun HT_ HW_=> ?_);generalize wr.drew=w13 at HO_10 HB HR741_0 hx740_0 hx741_0 hHeld|-;refine pv_ 0 33 1 HT_ ?_;refine pv_ 1 34 3 HT_ ?_;refine pv_ 2 35 7 HT_ ?_;refine pv_ 3 36 15 HT_ ?_;refine pv_ 4 37 31 HT_ ?_;refine pv_ 6 39 95 HT_ ?_;refine pv_ 7 40 223 HT_ ?_;refine pv_ 8 41 479 HT_ ?_;refine tw_ 5 38 511 HT_ HW_ hHeld ?_;refine tw_ 9 42 1023 HT_ HW_ hHeld ?_
   refine one_ (i:=10) (N:=some 43) (bA 16 2047) rfl rfl (cbz HT_.out kr_) (by decide) (fun K hK=> ?_);refine goes_ Tryz.func71 kr_ rfl #[.int .i64 a0, .int .u32 a1, .int .i64 (rd l2 x11_2), .slice A741_0 (rd_L1 l3 x11_2).length c741_0] (by rfl) rfl rfl ar_ ?_
   with_reducible refine (a1z.calls k2 a0 a1 (rd l2 x11_2) _ _ (rd_L1 l3 x11_2) t742 t743 _ ?side1 ?side2 A11.out).mono ?_
   (case side1=>repeat (first|exact (Kd.azz HR741_0.out HB.out)|(with_reducible refine Kd.b7z ?_ _)|(with_reducible refine Kd.bDz ?_ _)|(with_reducible refine Kd.coz ?_)))
   (case side2=>exact HC741_0.out)
   rintro e w14 ⟨v744,rfl,ho0,hb⟩;refine ⟨_,rfl,?_⟩;have n_:=Zb (Za (Kd.dxz (xd_ HO_10.out) (Kd.ciz ho0) hb)) (Zb (Za (Kd.bAz (Kd.R_new' ho0 (Kd.R_lt (xd_ HO_10.out))) (adz bl_))) (hs_ HB hb));clear HO_10 HB;obtain ⟨HO_10,HO745,HB⟩:=n_
   (try clear hb)
   (try clear hb2)
   (try clear hk)
   (try clear hi)
   (try clear ho0)
   refine hK.out _ _ ⟨((HB.out.cell (Zj w _ hw740_0)).trans hw740_0),((HB.out.cell (Zj w _ hw741_0)).trans hw741_0)⟩ (fun hHeld=> ?_);clear hK K;refine norm_ (a':= ?_) ?_ ?_;rotate_left
   ·show Act.put _ (some 43) _=_;simp only [Act.put,Zg,Zh,Zi,i64_w,i32_w];rfl
   refine pv_ 11 32 4095 HT_ ?_;refine pv_ 12 44 8191 HT_ ?_;refine pv_ 13 45 16383 HT_ ?_;refine pv_ 14 12 32767 HT_ ?_;refine pv_ 15 13 65535 HT_ ?_;refine done_ (cCz HT_.out kr_) ?_
   go_upto_region 8 with (fail)
   go_cut [59] (fun v59 wc=> ∃(kq:Nat) (x59_11:Bool),v59= .bool x59_11/\Aside0 (alz.j2 kq a0 a1 l2 l3 x10_2 x11_2 t742 x59_11=some (r1,r2))/\Aside0 (kq<=k2)/\Aside0 (Kd.R (Kd.int .u8) 5 wc w.heap.size (fun k_=>some k_≠(v744:Value).ownBlock) u10 x10_2)/\Aside0 (Kd.R (Kd.int .u8) 5 wc w.heap.size (fun k_=>some k_≠(u10:Value).ownBlock) v744 t742)/\Aside0 (Below w.heap.size w wc))
   case first=>
    have H:=HC12.out;clear HC12;by_cases c15:t743=true
    rotate_left
    ·replace c15:=Zr c15;subst c15;rw [Yb (show¬(false=true) by decide)] at H;have H':=Za H;clear H
     try go_wp2
     have n_:=Zb (Za (Kd.b5z HO_10.out)) (Zb (Za (Kd.b5z HO745.out)) (Za (bTz HB.out)));clear HO_10 HO745 HB;obtain ⟨HO_10,HO745,HB⟩:=n_;refine bPz (n:=14) (S:=fun w'=>True) (ds:= []) (bA 14 0) kr_ rfl rfl trivial (fun hHeld=> ?_);refine cdz alz.tab8 alz.bits8 (fun HT_ HW_=> ?_);generalize w14.drew=w18 at HO_10 HO745 HB hHeld|-;refine pv_ 0 46 1 HT_ ?_;refine pv_ 1 47 3 HT_ ?_;refine pv_ 2 48 7 HT_ ?_;refine pn_ 3 49 15 HT_ ?_;refine pn_ 4 50 31 HT_ ?_;refine pn_ 5 51 63 HT_ ?_;refine pn_ 6 52 127 HT_ ?_;refine pn_ 7 53 255 HT_ ?_;refine pn_ 8 54 511 HT_ ?_;refine pn_ 9 55 1023 HT_ ?_;refine pn_ 10 56 2047 HT_ ?_;refine pn_ 11 57 4095 HT_ ?_;refine pn_ 12 58 8191 HT_ ?_;refine pv_ 13 59 16383 HT_ ?_;refine done_ (cCz HT_.out kr_) ?_
     try go_wp2
     go_meet
     case rel=>exact ⟨_,(true),sd_,H',⟨by have:=HJ4.out;have:=HK2.out;first|omega|exact Zv _⟩,⟨rm_ HO_10⟩,⟨rm_ HO745⟩,⟨bl_⟩⟩
    subst c15;rw [Ya rfl] at H;by_cases c16:0<(l3.length:Int)
    rotate_left
    ·rw [Yb c16] at H;exact Yf H (by simp)
    rw [Ya c16] at H;have c16b0:=Zd c16;have c16b1:decide (0<l3.length)=true:=Zd (by omega);clear c16
    (first|rw [c16b0] |(simp only [i64_w,i32_w];rw [c16b0])|skip)
    have H':=Za H;clear H
    try go_wp2
    have n_:=Zb (Za (Kd.b5z HO_10.out)) (Zb (Za (Kd.b5z HO745.out)) (Za (bTz HB.out)));clear HO_10 HO745 HB;obtain ⟨HO_10,HO745,HB⟩:=n_;have p746:0<=(x11_2:Int):=Zc as_;have q746:x11_2<(l3.length:Int):=Zc as_;obtain ⟨ad746,A746_0,c746_0,e746,hx746_0,hl746_0,hi746_0⟩:=at_L1 HR3.out x11_2 p746 q746;have hw746_0:=hx746_0;obtain rfl:ad741=ad746:=(by injection e746);replace hx746_0:=(HB.out.cell (Zj w _ hx746_0)).trans hx746_0;have HR746_0:=Za hi746_0;have HC746_0:=Za hl746_0;clear hi746_0 hl746_0;replace p746:=Zz p746;replace q746:=Zz q746;have p747:0<=(0:Int):=(by omega);have q747:0<(l3.length:Int):=Zc as_;obtain ⟨ad747,A747_0,c747_0,e747,hx747_0,hl747_0,hi747_0⟩:=at_L1 HR3.out 0 p747 q747;have hw747_0:=hx747_0
    (try rw [show ((0:Int)).toNat=0 from rfl] at hw747_0)
    (try rw [show 0*1=0 from rfl] at hw747_0)
    (try rw [Addr.add_zero'] at hw747_0)
    obtain rfl:ad741=ad747:=(by injection e747);have qi747:(0<l3.length)=True:=Zz (by omega)
    (try rw [show ((0:Int)).toNat=0 from rfl] at hx747_0)
    (try rw [Addr.add_zero'] at hx747_0)
    replace hx747_0:=(HB.out.cell (Zj w _ hx747_0)).trans hx747_0;have HR747_0:=Za hi747_0;have HC747_0:=Za hl747_0;clear hi747_0 hl747_0;replace p747:=Zz p747;replace q747:=Zz q747;refine bPz (n:=14) (S:=fun w'=>w'.cell? (ad741.add (x11_2).toNat)=some (.slice A746_0 (rd_L1 l3 x11_2).length c746_0)/\w'.cell? ad741=some (.slice A747_0 (rd_L1 l3 0).length c747_0)) (ds:= []) (bA 14 0) kr_ rfl rfl ⟨((HB.out.cell (Zj w _ hw746_0)).trans hw746_0),((HB.out.cell (Zj w _ hw747_0)).trans hw747_0)⟩ (fun hHeld=> ?_);refine cdz alz.tab8 alz.bits8 (fun HT_ HW_=> ?_);generalize w14.drew=w17 at HO_10 HO745 HB HR746_0 HR747_0 hx746_0 hx747_0 hHeld|-;refine pv_ 0 46 1 HT_ ?_;refine pv_ 1 47 3 HT_ ?_;refine pv_ 2 48 7 HT_ ?_;refine pv_ 3 49 15 HT_ ?_;refine pv_ 4 50 31 HT_ ?_;refine pv_ 5 51 63 HT_ ?_;refine pv_ 8 54 319 HT_ ?_;refine pv_ 9 55 831 HT_ ?_;refine tw_ 6 52 895 HT_ HW_ hHeld ?_;refine pv_ 7 53 1023 HT_ ?_
    refine tw_ 10 56 2047 HT_ HW_ hHeld ?_;refine pv_ 11 57 4095 HT_ ?_;refine pv_ 12 58 8191 HT_ ?_;refine pv_ 13 59 16383 HT_ ?_;refine done_ (cCz HT_.out kr_) ?_
    try go_wp2
    go_meet
    case rel=>exact ⟨_,((((rd_L1 l3 x11_2).length:Int) !=((rd_L1 l3 0).length:Int))),sd_,H',⟨by have:=HJ4.out;have:=HK2.out;first|omega|exact Zv _⟩,⟨rm_ HO_10⟩,⟨rm_ HO745⟩,⟨bl_⟩⟩
   case rest=>
    clear HC12;clear c8b0 c9b0 c10b0 hx740_0 hx741_0 p740 p741 q740 q741;obtain ⟨kq,x59_11,rfl,HA,HJ11,HO_10,HO_12,HB⟩:=hcut;rcases kq with _|kj11
    ·exact Yf HA.out (by simp [alz.j2])
    have H:=HA.out;clear HA;simp only [alz.j2] at H;by_cases c19:x59_11=true
    ·subst c19;rw [Ya rfl] at H;simp only [Zx,Zy] at H;obtain ⟨rfl,rfl⟩:=H;go_wp2;go_ret2;exact ⟨_,er_,nl_,bl_⟩
    ·replace c19:=Zr c19;subst c19;rw [Yb (show¬(false=true) by decide)] at H;by_cases c20:x11_2=0
     ·rw [Ya c20] at H;have c20b0:(x11_2==0)=true:=Ye c20;have c20b1:(x11_2 !=0)=false:=Yc c20;clear c20;have H':=Za H;clear H;go_wp2
      go_roundg kj11
      case measure=>have:=HJ4.out;have:=HK2.out;have:=HJ11.out;omega
      case rel=>exact ⟨(t742),(wrap64 (x11_2+1)),sd_,H',⟨by have:=HJ4.out;have:=HK2.out;have:=HJ11.out;omega⟩,⟨rm_ HO_12⟩,⟨bl_⟩⟩
     ·rw [Yb c20] at H;have c20b0:(x11_2==0)=false:=Zq c20;have c20b1:(x11_2 !=0)=true:=Yd c20;obtain ⟨⟨t748,t749⟩,A21,H⟩:=ob_ H
      (try dsimp only at H)
      have H':=Za H;clear H;obtain ⟨Ao22,co22,eo22⟩:=Kd.a3z HO_10.out;subst eo22;obtain ⟨Ao23,co23,eo23⟩:=Kd.a3z HO_12.out;subst eo23
      go_wp2_with (first|((with_reducible refine aaz (f:=70) rfl ?_);refine gl_ (some 66) Tryz.func70 #[.slice Ao22 x10_2.length co22, .slice Ao23 t742.length co23] ?_;(with_reducible refine (aWz.calls kj11 _ _ x10_2 _ _ t742 t748 t749 _ (xd_ (Kd.aPz HO_10.out).2.2) ((Kd.aPz HO_10.out).2.1) (xd_ (Kd.aPz HO_12.out).2.2) ((Kd.aPz HO_12.out).2.1) A21.out).mono ?_);rintro e w24 ⟨v750,rfl,ho0,hb⟩;refine ⟨_,rfl,?_⟩;have n_:=Zb (Za (Kd.dxz (xd_ HO_10.out) (Kd.ciz ho0) hb)) (Zb (Za (Kd.dxz (xd_ HO_12.out) (Kd.ciz ho0) hb)) (Zb (Za (Kd.bAz (Kd.R_new' (Kd.R_new' ho0 (Kd.R_lt (xd_ HO_10.out))) (Kd.R_lt (xd_ HO_12.out))) (adz bl_))) (hs_ HB hb)));clear HO_10 HO_12 HB;obtain ⟨HO_10,HO_12,HO751,HB⟩:=n_;clear hb ho0))
      go_roundg kj11
      case measure=>have:=HJ4.out;have:=HK2.out;have:=HJ11.out;omega
      case rel=>exact ⟨(t748),(wrap64 (x11_2+1)),sd_,H',⟨by have:=HJ4.out;have:=HK2.out;have:=HJ11.out;omega⟩,⟨rm_ HO751⟩,⟨bl_⟩⟩
mutual
def aqz.j0:Nat->List (List Int)->Bool->Int->Int->Int->Option ((List (List Int))×Int)
 |0,_,_,_,_,_=>none
 |k+1,x1,x29,x753000,x753001,x753002=>if x29=true then (some (([] :List (List Int)),1)) else ((aNz.f x753000).bind fun bt755=>((bwz.f k x753000 x753001 x753002).bind fun bt762=>(aqz.l0 k x1 bt762.1 ([] :List (List Int)) 0 bt755.1 bt755.2.1 bt755.2.2.1 bt755.2.2.2.1 bt755.2.2.2.2.1)))
def aqz.l0:Nat->List (List Int)->List (List Int)->List (List Int)->Int->ByteArray->Int->Int->Int->Int->Option ((List (List Int))×Int)
 |0,_,_,_,_,_,_,_,_,_=>none
 |k+1,x1,x8,x10,x11,x762000,x762001,x762002,x762003,x762004=>if x11<(x8.length:Int) then (if 0<=x11 then ((alz.f k x762001 x762002 (rd_L4 x8 x11) x1).bind fun bt767=>(if x10.length<5864062014805 then (aqz.l0 k x1 x8 (x10++ [bt767.1]) (wrap64 (x11+1)) x762000 x762001 x762002 x762003 x762004) else (none))) else (none)) else (some (x10,0))
end
def aqz.f (k:Nat) (a0_0:Int) (a0_1:Int) (a0_2:Int) (l1:List (List Int)):Option ((List (List Int))×Int):=(aRz.f a0_0 a0_1 a0_2).bind fun t753=>(if t753=true then (if (l1.length:Int)=a0_1 then ((biz.f k a0_0 a0_1 a0_2 l1).bind fun t754=>(aqz.j0 k l1 (!t754) a0_0 a0_1 a0_2)) else (aqz.j0 k l1 true a0_0 a0_1 a0_2)) else (aqz.j0 k l1 true a0_0 a0_1 a0_2))
def aqz.T9:Bool×List (List Nat×List Nat):=(true, [([], []),([0], [0]),([], []),([2], [2]),([], []),([], []),([4,5], [4,5]),([6], [6]),([], []),([1,3,7,8], [1,3,7,8]),([9], [9]),([10], [10]),([10], [10]),([11,9,0,1,2,3,4,5,6,7,8,9,10,11], [11]),([12,13,0,1,2,3,4,5,6,7,8,9,10,11,12,13], [12])])
def aqz.B9:List Nat:= [0,1,0,4,0,0,48,112,0,511,1023,2047,2047,4095,16383]
theorem aqz.tab9:rtab .any (opsOf Tryz.f20 9)=aqz.T9:=by kernel_rfl
theorem aqz.bits9:waitsOk aqz.T9.2 aqz.B9=true:=by kernel_rfl
theorem aqz.calls (k : Nat) (a0_0 : Int) (a0_1 : Int) (a0_2 : Int) (A1 : Option Addr) (c1 : Nat) (l1 : List (List Int)) (r1 : List (List Int)) (r2 : Int) (w : World) (hr1 : Kd.C (Kd.slice 5 (Kd.int .u8)) w A1 l1.length l1) (hc1 : l1.length <= c1) (h : aqz.f k a0_0 a0_1 a0_2 l1 = some (r1, r2)) :
  Calls Tryz.prog 20 #[.agg #[.int .i64 a0_0, .int .i64 a0_1, .int .i64 a0_2], .slice A1 l1.length c1] w fun e w'=> ∃v0_:Value,e= .returned (.tuple #[v0_, .int .i64 r2])/\Kd.S (Kd.slice 5 (Kd.int .u8)) 34 w' w.heap.size (fun _=>True) v0_ r1/\Below w.heap.size w w':=by
 have hu23:=Tryz.underlying23;have hu79:=Tryz.underlying79;have HR1:=Za hr1;have HC1:=Za hc1;clear hr1 hc1;have HB:=Za (Zw w.heap.size w);have H:=h;clear h;unfold aqz.f at H;have HC3:=Za H;clear H;go_enter Tryz.func20,Tryz.ntmps20
 go_upto_region 1 with (first|((with_reducible refine aMz (N:=2) rfl ?_);(try (refine aVz (by rfl) ?_;dsimp only));refine bx_ 2 #[.int .i64 a0_0, .int .i64 a0_1, .int .i64 a0_2] 23 ?_;intro gb752 hg w4 hbox hb;have n_:=Zb (hs_ HB hb) (Zb (Za (hbox)) (Zb (ag_ HB gb752) (ag_ HB gb752)));clear HB;obtain ⟨HB,BK752,GW752,GE752⟩:=n_;clear hb hbox hg))
 (try simp only [Act.put,Zg,Zh,Zi])
 go_cut [29] (fun v29 wc=> ∃(kq:Nat) (x29_2:Bool),v29= .bool x29_2/\Aside0 (aqz.j0 kq l1 x29_2 a0_0 a0_1 a0_2=some (r1,r2))/\Aside0 (kq<=k)/\Aside0 (wc.heap[gb752]?=some (.cells #[.int .i64 a0_0, .int .i64 a0_1, .int .i64 a0_2] 23 (0,0)))/\Aside0 (Below w.heap.size w wc))
 case first=>
  have H:=HC3.out;clear HC3;obtain ⟨t753,A5,H⟩:=ob_ H
  (try dsimp only at H)
  by_cases c6:t753=true
  rotate_left
  ·replace c6:=Zr c6;subst c6;rw [Yb (show¬(false=true) by decide)] at H;have H':=Za H;clear H;obtain ⟨_,_,_,_,_,_⟩:=bc3_ BK752.out
   go_wp2_with (first|((with_reducible refine aaz (f:=48) rfl ?_);refine gl_ (some 15) Tryz.func48 #[.agg #[.int .i64 a0_0, .int .i64 a0_1, .int .i64 a0_2]] ?_;(with_reducible refine (aRz.calls a0_0 a0_1 a0_2 false _ A5.out).mono ?_);rintro e w17 ⟨rfl,hb⟩;refine ⟨_,rfl,?_⟩;have n_:=Zb (bb_ BK752 hb) (hs_ HB hb);clear BK752 HB;obtain ⟨BK752,HB⟩:=n_;(try clear hb)))
   go_meet
   case rel=>exact ⟨_,(true),sd_,H',⟨by first|omega|exact Zv _⟩,⟨bk_⟩,⟨bl_⟩⟩
  subst c6;rw [Ya rfl] at H;by_cases c7:(l1.length:Int)=a0_1
  rotate_left
  ·rw [Yb c7] at H;have c7b0:((l1.length:Int)==a0_1)=false:=Zq c7;have c7b1:((l1.length:Int) !=a0_1)=true:=Yd c7
   (first|rw [c7b0] |(simp only [i64_w,i32_w];rw [c7b0])|skip)
   have H':=Za H;clear H;obtain ⟨_,_,_,_,_,_⟩:=bc3_ BK752.out
   go_wp2_with (first|((with_reducible refine aaz (f:=48) rfl ?_);refine gl_ (some 15) Tryz.func48 #[.agg #[.int .i64 a0_0, .int .i64 a0_1, .int .i64 a0_2]] ?_;(with_reducible refine (aRz.calls a0_0 a0_1 a0_2 true _ A5.out).mono ?_);rintro e w14 ⟨rfl,hb⟩;refine ⟨_,rfl,?_⟩;have n_:=Zb (bb_ BK752 hb) (hs_ HB hb);clear BK752 HB;obtain ⟨BK752,HB⟩:=n_;(try clear hb);obtain ⟨_,_,_,_,_,_⟩:=bc3_ BK752.out))
   go_meet
   case rel=>exact ⟨_,(true),sd_,H',⟨by first|omega|exact Zv _⟩,⟨bk_⟩,⟨bl_⟩⟩
  rw [Ya c7] at H;have c7b0:((l1.length:Int)==a0_1)=true:=Ye c7;have c7b1:((l1.length:Int) !=a0_1)=false:=Yc c7;clear c7
  (first|rw [c7b0] |(simp only [i64_w,i32_w];rw [c7b0])|skip)
  obtain ⟨t754,A8,H⟩:=ob_ H
  (try dsimp only at H)
  have H':=Za H;clear H;obtain ⟨_,_,_,_,_,_⟩:=bc3_ BK752.out
  go_wp2_with (first|((with_reducible refine aaz (f:=48) rfl ?_);refine gl_ (some 15) Tryz.func48 #[.agg #[.int .i64 a0_0, .int .i64 a0_1, .int .i64 a0_2]] ?_;(with_reducible refine (aRz.calls a0_0 a0_1 a0_2 true _ A5.out).mono ?_);rintro e w10 ⟨rfl,hb⟩;refine ⟨_,rfl,?_⟩;have n_:=Zb (bb_ BK752 hb) (hs_ HB hb);clear BK752 HB;obtain ⟨BK752,HB⟩:=n_;(try clear hb);obtain ⟨_,_,_,_,_,_⟩:=bc3_ BK752.out)|(go_at_call 49;(with_reducible refine (biz.calls k a0_0 a0_1 a0_2 _ _ l1 t754 _ (xd_ (Kd.azz HR1.out HB.out)) (HC1.out) A8.out).mono ?_);rintro e w12 ⟨rfl,hb⟩;have n_:=Zb (bb_ BK752 hb) (hs_ HB hb);clear BK752 HB;obtain ⟨BK752,HB⟩:=n_;(try clear hb)))
  go_meet
  case rel=>exact ⟨_,(!t754),sd_,H',⟨by first|omega|exact Zv _⟩,⟨bk_⟩,⟨bl_⟩⟩
 case rest=>
  clear HC3;obtain ⟨kq,x29_2,rfl,HA,HJ2,BK752,HB⟩:=hcut;rcases kq with _|kj2
  ·exact Yf HA.out (by simp [aqz.j0])
  have H:=HA.out;clear HA;simp only [aqz.j0] at H;by_cases c18:x29_2=true
  ·subst c18;rw [Ya rfl] at H;simp only [Zx,Zy] at H;obtain ⟨rfl,rfl⟩:=H;go_wp2;go_ret2;exact ⟨_,er_,nl_,bl_⟩
  ·replace c18:=Zr c18;subst c18;rw [Yb (show¬(false=true) by decide)] at H;obtain ⟨⟨t755,t756,t757,t758,t759,t760⟩,A19,H⟩:=ob_ H
   (try dsimp only at H)
   obtain ⟨⟨t762,t765⟩,A20,H⟩:=ob_ H
   (try dsimp only at H)
   have H':=Za H;clear H;obtain ⟨hcz21_0,hfz21_0,hcz21_1,hfz21_1,hcz21_2,hfz21_2⟩:=bc3_ BK752.out
   go_wp2_with (first|((with_reducible refine aaz (f:=50) rfl ?_);refine gl_ (some 33) Tryz.func50 #[.int .i64 a0_0] ?_;(with_reducible refine (aNz.calls a0_0 t755 t756 t757 t758 t759 t760 _ A19.out).mono ?_);rintro e w22 ⟨rfl,hb⟩;refine ⟨_,rfl,?_⟩;have n_:=Zb (bb_ BK752 hb) (hs_ HB hb);clear BK752 HB;obtain ⟨BK752,HB⟩:=n_;(try clear hb))|((with_reducible refine aMz (N:=6) rfl ?_);(try (refine aVz (by rfl) ?_;dsimp only));refine b4z ?hg (N:=6) ?hd (cs:= #[.string (⟨#[]⟩:ByteArray), .int .i64 0, .int .u32 0, .int .u8 0, .int .i64 0]) (t:=79) ?hr ?_;(case hd=>rfl);(case hg=>rfl);(case hr=>first|(go_simp;done)|(go_simp;rfl));intro gb761 hg w23 hbox hb;have n_:=Zb (bb_ BK752 hb) (Zb (hs_ HB hb) (Zb (Za (hbox)) (Zb (ag_ HB gb761) (Zb (ag_ HB gb761) (Zb (n1_ BK752 gb761) (n2_ BK752 gb761))))));clear BK752 HB;obtain ⟨BK752,HB,BK761,GW761,GE761,NB752_761,NB761_752⟩:=n_;clear hb hbox hg;have hnb24:=NB761_752.out;have hnc24:=NB752_761.out;obtain ⟨hcz25_0,hfz25_0,hcz25_1,hfz25_1,hcz25_2,hfz25_2,hcz25_3,hfz25_3,hcz25_4,hfz25_4⟩:=bc5_ BK761.out;obtain ⟨hcz26_0,hfz26_0,hcz26_1,hfz26_1,hcz26_2,hfz26_2⟩:=bc3_ BK752.out)|((with_reducible refine aaz (f:=51) rfl ?_);refine gl_ (some 38) Tryz.func51 #[.agg #[.int .i64 a0_0, .int .i64 a0_1, .int .i64 a0_2]] ?_;(with_reducible refine (bwz.calls kj2 a0_0 a0_1 a0_2 t762 t765 _ A20.out).mono ?_);rintro e w27 ⟨v763,rfl,ho0,hb⟩;refine ⟨_,rfl,?_⟩;have n_:=Zb (Za (Kd.V_lower (Kd.drz (ok':=fun k_=>k_≠gb752/\k_≠gb761) ho0 (fun k_ hk_=>⟨(Kd.freshB (g:=gb752) (o:= .cells #[.int .i64 a0_0, .int .i64 a0_1, .int .i64 a0_2] 23 (0,0)) kb_ k_ hk_),(Kd.freshB (g:=gb761) (o:= .cells #[.string t755, .int .i64 t756, .int .u32 t757, .int .u8 t758, .int .i64 t759] 79 (0,0)) kb_ k_ hk_)⟩)) (adz bl_))) (Zb (Za (aBz (g:=gb752) (o:= .cells #[.int .i64 a0_0, .int .i64 a0_1, .int .i64 a0_2] 23 (0,0)) kb_ hb)) (Zb (Za (aBz (g:=gb761) (o:= .cells #[.string t755, .int .i64 t756, .int .u32 t757, .int .u8 t758, .int .i64 t759] 79 (0,0)) kb_ hb)) (hs_ HB hb)));clear BK752 BK761 HB;obtain ⟨HO764,BK752,BK761,HB⟩:=n_;clear hb ho0))
   go_loopg [10,11] kj2 (fun kq v10 v11 w'=> ∃(x10_2:List (List Int)) (x11_2:Int),v11= .int .i64 x11_2/\Aside0 (aqz.l0 kq l1 t762 x10_2 x11_2 t755 t756 t757 t758 t759=some (r1,r2))/\Aside0 (kq<=kj2)/\Aside0 (Kd.V (Kd.slice 3 (Kd.int .i64)) 57 w' w.heap.size (fun k_=>some k_≠(v10:Value).ownBlock/\k_≠gb752/\k_≠gb761) v763 t762)/\Aside0 (Kd.S (Kd.slice 5 (Kd.int .u8)) 34 w' w.heap.size (fun _=>True) v10 x10_2)/\Aside0 (w'.heap[gb752]?=some (.cells #[.int .i64 a0_0, .int .i64 a0_1, .int .i64 a0_2] 23 (0,0)))/\Aside0 (w'.heap[gb761]?=some (.cells #[.string t755, .int .i64 t756, .int .u32 t757, .int .u8 t758, .int .i64 t759] 79 (0,0)))/\Aside0 (Below w.heap.size w w'))
   case atStart=>exact ⟨(([] :List (List Int))),(0),sd_,H',⟨Zv _⟩,⟨vm_ HO764⟩,⟨nl_⟩,⟨bk_⟩,⟨bk_⟩,⟨bl_⟩⟩
   clear H';clear hcz21_0 hcz21_1 hcz21_2 hcz25_0 hcz25_1 hcz25_2 hcz25_3 hcz25_4 hcz26_0 hcz26_1 hcz26_2 hfz21_0 hfz21_1 hfz21_2 hfz25_0 hfz25_1 hfz25_2 hfz25_3 hfz25_4 hfz26_0 hfz26_1 hfz26_2;obtain ⟨x10_2,x11_2,rfl,HA,HK2,HO_8,HO_10,BK752,BK761,HB⟩:=hrel;rcases gk with _|k2
   ·exact Yf HA.out (by simp [aqz.l0])
   have H:=HA.out;clear HA;simp only [aqz.l0] at H;by_cases c28:x11_2<(t762.length:Int)
   rotate_left
   ·rw [Yb c28] at H;have c28b0:=Ze c28;clear c28;simp only [Zx,Zy] at H;obtain ⟨rfl,rfl⟩:=H;obtain ⟨Ao37,co37,eo37⟩:=Kd.V_slice HO_8.out;subst eo37;go_wp2;go_ret2;exact ⟨_,er_,xd_ HO_10.out,bl_⟩
   rw [Ya c28] at H;have c28b0:=Zd c28;clear c28;by_cases c29:0<=x11_2
   rotate_left
   ·rw [Yb c29] at H;exact Yf H (by simp)
   rw [Ya c29] at H;have c29b0:=Zd c29;clear c29;obtain ⟨⟨t767,t768⟩,A30,H⟩:=ob_ H
   (try dsimp only at H)
   by_cases c31:x10_2.length<5864062014805
   rotate_left
   ·rw [Yb c31] at H;exact Yf H (by simp)
   rw [Ya c31] at H;have LMc31:=Za c31;clear c31;obtain ⟨y771,hy771⟩: ∃y_:List (List Int),y_=(x10_2++ [t767]):=⟨_,rfl⟩
   first|rw [Zl, <-hy771] at H|rw [<-hy771] at H
   (try dsimp only at H)
   have Ny771:=Za hy771;clear hy771;have H':=Za H;clear H;obtain ⟨Ao32,co32,eo32⟩:=Kd.V_slice HO_8.out;subst eo32
   try go_wp2
   have n_:=Zb (Za (Kd.dsz HO_8.out)) (Zb (Za (Kd.S_drew HO_10.out)) (Zb (Za (ccz BK752.out)) (Zb (Za (ccz BK761.out)) (Za (bTz HB.out)))));clear HO_8 HO_10 BK752 BK761 HB;obtain ⟨HO_8,HO_10,BK752,BK761,HB⟩:=n_;have p766:0<=(x11_2:Int):=Zc as_;have q766:x11_2<(t762.length:Int):=Zc as_;obtain ⟨ad766,A766_0,c766_0,e766,hx766_0,hl766_0,hi766_0⟩:=at_L4 (Kd.c5z HO_8.out).2.2 x11_2 p766 q766;cases e766
   obtain ⟨ce766,hce766,hMe766,hcc766⟩:=Kd.V_get HO_8.out [] x11_2 p766 (by first|exact q766|exact Zc as_|(have e_:=(Kd.c5z HO_8.out).1;omega));obtain ⟨ua766_0,uc766_0,rfl,ul766_0,ge766_0⟩:=Kd.cMz hMe766;have hv766_0:=hcc766 0 _ rfl;rw [Nat.add_zero,show ((Kd.slice 3 (Kd.int .i64))).sz=1 from rfl,Nat.mul_one] at hv766_0;replace hv766_0:=Zn (hv766_0.symm.trans hx766_0);injection hv766_0 with hva_ hvn_ hvc_
   rw [hva_] at ge766_0;rw [hvc_] at ul766_0;have HL766_0:=Za (show Kd.V (Kd.int .i64) 3 _ w.heap.size _ _ (rd_L4 t762 x11_2) from Kd.V_mk ul766_0 ge766_0);clear hva_ hvn_ hvc_ ge766_0 ul766_0;clear hcc766 hce766;have HR766_0:=Za hi766_0;have HC766_0:=Za hl766_0;clear hi766_0 hl766_0;replace p766:=Zz p766;replace q766:=Zz q766;refine bPz (n:=15) (S:=fun w'=>w'.cell? ⟨gb761,0,none⟩=some (.string t755)/\w'.cell? ⟨gb761,1,none⟩=some (.int .i64 t756)/\w'.cell? ⟨gb761,2,none⟩=some (.int .u32 t757)/\w'.cell? ⟨gb761,3,none⟩=some (.int .u8 t758)/\w'.cell? ⟨gb761,4,none⟩=some (.int .i64 t759)/\w'.cell? (ad766.add (x11_2).toNat)=some (.slice A766_0 (rd_L4 t762 x11_2).length c766_0)) (ds:= []) (bA 15 0) kr_ rfl rfl ⟨(abz BK761.out 0).trans rfl,(abz BK761.out 1).trans rfl,(abz BK761.out 2).trans rfl,(abz BK761.out 3).trans rfl,(abz BK761.out 4).trans rfl,hx766_0⟩ (fun hHeld=> ?_);refine cdz aqz.tab9 aqz.bits9 (fun HT_ HW_=> ?_)
   generalize wr.drew=w33 at HO_8 HO_10 BK752 BK761 HB HL766_0 HR766_0 hx766_0 hHeld|-;refine pv_ 0 48 1 HT_ ?_;refine pv_ 2 50 5 HT_ ?_;refine pv_ 4 52 21 HT_ ?_;refine pv_ 5 53 53 HT_ ?_;refine pv_ 6 54 117 HT_ ?_;refine pv_ 8 56 373 HT_ ?_;refine tw_ 1 49 375 HT_ HW_ hHeld ?_;refine tw_ 3 51 383 HT_ HW_ hHeld ?_;refine tw_ 7 55 511 HT_ HW_ hHeld ?_;refine one_ (i:=9) (N:=some 57) (bA 15 1023) rfl rfl (cbz HT_.out kr_) (by decide) (fun K hK=> ?_);refine goes_ Tryz.func52 kr_ rfl #[.int .i64 t756, .int .u32 t757, .slice A766_0 (rd_L4 t762 x11_2).length c766_0, .slice A1 l1.length c1] (by rfl) rfl rfl ar_ ?_
   with_reducible refine (alz.calls k2 t756 t757 _ _ (rd_L4 t762 x11_2) _ _ l1 t767 t768 _ ?side1 ?side2 ?side3 ?side4 A30.out).mono ?_
   (case side1=>repeat (first|exact (by repeat (first|(with_reducible exact HR766_0.out)|(with_reducible refine Kd.b7z ?_ _)|(with_reducible refine Kd.bDz ?_ _)|(with_reducible refine Kd.coz ?_)|exact HR766_0.out))|(with_reducible refine Kd.b7z ?_ _)|(with_reducible refine Kd.bDz ?_ _)|(with_reducible refine Kd.coz ?_)))
   (case side2=>exact HC766_0.out)
   (case side3=>repeat (first|exact (Kd.azz HR1.out HB.out)|(with_reducible refine Kd.b7z ?_ _)|(with_reducible refine Kd.bDz ?_ _)|(with_reducible refine Kd.coz ?_)))
   (case side4=>exact HC1.out)
   rintro e w34 ⟨v769,rfl,ho0,hb⟩;have HS5_:=(hb.cell (Zj _ _ (hHeld.2.2.2.2.2))).trans (hHeld.2.2.2.2.2);refine ⟨_,rfl,?_⟩;have n_:=Zb (Za (Kd.dyz (xd_ HO_8.out) (Kd.ciz ho0) hb)) (Zb (Za (Kd.S_elder' (xd_ HO_10.out) (Kd.ciz ho0) hb)) (Zb (Za (Kd.dyz (by (with_reducible repeat (first|apply Kd.dmz|apply Kd.dnz|apply Kd.dsz));exact HL766_0.out) (Kd.ciz ho0) hb)) (Zb (Za (Kd.bAz ho0 (adz bl_))) (Zb (bb_ BK752 hb) (Zb (bb_ BK761 hb) (Zb (Za (Kd.azz (by repeat (first|(with_reducible exact HR766_0.out)|(with_reducible refine Kd.b7z ?_ _)|(with_reducible refine Kd.bDz ?_ _)|(with_reducible refine Kd.coz ?_)|exact HR766_0.out)) hb)) (hs_ HB hb)))))));clear HO_8 HO_10 HL766_0 BK752 BK761 HR766_0 HB;obtain ⟨HO_8,HO_10,HL766_0,HO770,BK752,BK761,HR766_0,HB⟩:=n_
   (try clear hb)
   (try clear hb2)
   (try clear hk)
   (try clear hi)
   (try clear ho0)
   refine hK.out _ _ ⟨(abz BK761.out 0).trans rfl,(abz BK761.out 1).trans rfl,(abz BK761.out 2).trans rfl,(abz BK761.out 3).trans rfl,(abz BK761.out 4).trans rfl,HS5_⟩ (fun hHeld=> ?_);clear hK K;refine norm_ (a':= ?_) ?_ ?_;rotate_left
   ·show Act.put _ (some 57) _=_;simp only [Act.put,Zg,Zh,Zi,i64_w,i32_w];rfl
   refine pv_ 10 47 2047 HT_ ?_;refine pv_ 11 58 4095 HT_ ?_;refine pv_ 12 59 8191 HT_ ?_;refine pv_ 13 12 16383 HT_ ?_;refine pv_ 14 13 32767 HT_ ?_;refine done_ (cCz HT_.out kr_) ?_;obtain ⟨Ao36,co36,eo36⟩:=Kd.a3z HO770.out;subst eo36
   try go_wp2_with (first|((with_reducible refine aoz (b:= .append) (xs:= #[.tmp 60, .tmp 62]) rfl ?_);(try (refine aVz (by rfl) ?_;dsimp only));at_builtin;refine Kd.b2z (Kd.slice 5 (Kd.int .u8)) (w0:=w) w.heap.size rfl (.tmp 60) (.tmp 62) 24 34 (.slice none 0 0) 24 rfl Tryz.underlying24 info34 rfl (by decide) (by omega) u10 x10_2 t767 [.slice Ao36 t767.length co36] (fun _=>True) (fun k_=>some k_=(.slice Ao36 t767.length co36:Value).ownBlock) rfl rfl ?aP (fun k_ hk_=>((Kd.aSz (ok':=fun k_=>((fun _=>True)) k_/\some k_≠(u10:Value).ownBlock) (Kd.bxz (HO770.out) (Kd.bQz HO_10.out) (by decide)) (fun k_ hk=>⟨trivial,hk.2⟩))).1 k_ hk_.symm) ?aF ?aO ?aB ?aS ?aL ?_;(case aP=>exact Kd.M_row (Kd.aSz (Kd.cgz rfl (Kd.aSz (ok':=fun k_=>((fun _=>True)) k_/\some k_≠(u10:Value).ownBlock) (Kd.bxz (HO770.out) (Kd.bQz HO_10.out) (by decide)) (fun k_ hk=>⟨trivial,hk.2⟩))) (fun _ h_=>h_)));(case aB=>exact bl_);(case aF=>exact (fun _ _=>trivial));(case aO=>exact (sm_ HO_10));(case aS=>exact (adz bl_));(case aL=>have:=LMc31.out;omega);intro v772 w35 ho hb hg hat;rw [<-Ny771.out] at ho;have n_:=Zb (Za (Kd.dez (ok:=(fun k_=>some k_≠(.slice Ao36 t767.length co36:Value).ownBlock/\k_≠gb752/\k_≠gb761)) (vm_ HO_8) hg hat)) (Zb (Za (ewz (g:=gb752) (o:= .cells #[.int .i64 a0_0, .int .i64 a0_1, .int .i64 a0_2] 23 (0,0)) bk_ hg (Kd.S_ne HO_10.out BK752.out (by decide)))) (Zb (Za (ewz (g:=gb761) (o:= .cells #[.string t755, .int .i64 t756, .int .u32 t757, .int .u8 t758, .int .i64 t759] 79 (0,0)) bk_ hg (Kd.S_ne HO_10.out BK761.out (by decide)))) (Zb (Za (Kd.dez (ok:=(fun k_=>some k_≠(.slice Ao36 t767.length co36:Value).ownBlock/\k_≠gb752/\k_≠gb761)) (by (with_reducible repeat (first|apply Kd.dmz|apply Kd.dnz|apply Kd.dsz));exact Kd.drz HL766_0.out (fun _ hk=>⟨⟨hk.2,⟨hk.1.2.1,hk.1.2.2⟩⟩,hk.1.1⟩)) hg hat)) (Zb (Za (hb)) (Za (ho))))));clear HO_8 BK752 BK761 HL766_0 HB HO_10 HO770;obtain ⟨HO_8,BK752,BK761,HL766_0,HB,HO773⟩:=n_;clear ho hb hg hat))
   go_roundg k2
   case measure=>have:=HJ2.out;have:=HK2.out;omega
   case rel=>exact ⟨(y771),(wrap64 (x11_2+1)),sd_,H',⟨by have:=HJ2.out;have:=HK2.out;omega⟩,⟨vm_ HO_8⟩,⟨xd_ HO773.out⟩,⟨bk_⟩,⟨bk_⟩,⟨bl_⟩⟩
def a7z.l0:Nat->List (List Int)->List (List Int)->Int->Option (Bool)
 |0,_,_,_=>none
 |k+1,x0,x1,x5=>if x5<(x0.length:Int) then (if 0<=x5 then (if x5<(x1.length:Int) then (if (strOfNums (x0.getD x5.toNat [])).toList=(strOfNums (x1.getD x5.toNat [])).toList then (a7z.l0 k x0 x1 (wrap64 (x5+1))) else (some false)) else (none)) else (none)) else (some true)
def a7z.f (k:Nat) (l0:List (List Int)) (l1:List (List Int)):Option (Bool):=if (l0.length:Int)=(l1.length:Int) then (a7z.l0 k l0 l1 0) else (some false)
theorem a7z.calls (k : Nat) (A0 : Option Addr) (c0 : Nat) (l0 : List (List Int)) (A1 : Option Addr) (c1 : Nat) (l1 : List (List Int)) (r : Bool) (w : World) (hr0 : Kd.C (Kd.slice 5 (Kd.int .u8)) w A0 l0.length l0) (hc0 : l0.length <= c0) (hr1 : Kd.C (Kd.slice 5 (Kd.int .u8)) w A1 l1.length l1) (hc1 : l1.length <= c1) (h : a7z.f k l0 l1 = some r) :
  Calls Tryz.prog 21 #[.slice A0 l0.length c0, .slice A1 l1.length c1] w fun e w'=>e= .returned (.bool r)/\Drawn0 w w':=by
 have HR0:=Za hr0;have HR1:=Za hr1;unfold a7z.f at h;by_cases hl:(l0.length:Int)=(l1.length:Int)
 case neg=>
  rw [Yb hl] at h;obtain rfl:=Zn h;generalize l0.length=n0 at hl|-;generalize l1.length=n1 at hl|-;have b1:((n0:Int) !=(n1:Int))=true:=bne_iff_ne.2 hl;clear hl h hr0 hr1 hc0 hc1;go_enter Tryz.func21,Tryz.ntmps21;go_wp2;go_ret;exact ⟨rfl,Drawn0.refl _⟩
 rw [Ya hl] at h;obtain ⟨n,hn⟩: ∃n,l0.length=n:=⟨_,rfl⟩;have hn1:l1.length=n:=by omega
 have HN0:=Za hn;have HN1:=Za hn1;have HH:=Za h;have HM:=Za (show n<=9223372036854775807 from hn▸hr0.2.1);rw [hn] at HR0|-;rw [hn1] at HR1|-;have b1:((n:Int) !=(n:Int))=false:=by simp
 clear hl h hr0 hr1 hc0 hc1 hn hn1;go_enter Tryz.func21,Tryz.ntmps21;go_wp2
 go_loopw [5] (fun iv wr=> ∃i kk m:Nat,i<=n/\iv= .int .i64 (i:Int)/\wr=w.drewN m/\Aside0 (a7z.l0 kk l0 l1 (i:Int)=some r)) (fun iv _=>n - (intOf iv).toNat)
 case atStart=>exact ⟨0,k,0,Nat.zero_le _,rfl,rfl,HH⟩
 clear HH b1;obtain ⟨i,kk,m,hi,rfl,hwm,HH⟩:=hrel;have HWM:=Za hwm;have HRA:=Za (show Kd.C (Kd.slice 5 (Kd.int .u8)) wr A0 n l0 by rw [hwm];exact Kd.bDz HR0.out m);have HRB:=Za (show Kd.C (Kd.slice 5 (Kd.int .u8)) wr A1 n l1 by rw [hwm];exact Kd.bDz HR1.out m);clear hwm;obtain ⟨wq,rfl⟩: ∃wq,wq=wr:=⟨_,rfl⟩;have h:=HH.out;rcases kk with _|kk
 ·exact Yf h (by simp [a7z.l0])
 unfold a7z.l0 at h;by_cases hlt:i<n
 ·obtain ⟨x,hx⟩: ∃x,l0[i]?=some x:=⟨_,Zf (by have:=HN0.out;omega)⟩;obtain ⟨y,hy⟩: ∃y,l1[i]?=some y:=⟨_,Zf (by have:=HN1.out;omega)⟩;rw [Ya (by rw [HN0.out];omega),Ya (by omega),Ya (by rw [HN1.out];omega),Zu,Zm,hx,Zm,hy] at h;obtain ⟨ad,A',ca,rfl,hcx, -,hX⟩:=cqz (HN0.out.symm▸HRA.out) i x hx;obtain ⟨bd,B',cb,rfl,hcy, -,hY⟩:=cqz (HN1.out.symm▸HRB.out) i y hy;have hcv1:=Kd.C_string (P:=Tryz.prog) (A:=A') (c:=ca) Tryz.underlying34 Tryz.underlying5 Tryz.underlying9 (Kd.bDz hX 1);have hcv2:=Kd.C_string (P:=Tryz.prog) (A:=B') (c:=cb) Tryz.underlying34 Tryz.underlying5 Tryz.underlying9 (Kd.bDz hY 1);simp only [Option.getD_some] at h;generalize x.length=xl at hcx hcv1;generalize y.length=yl at hcy hcv2;have i1:(0:Int)<=(i:Int):=by omega
  have i2:(i:Int)<(n:Int):=by omega
  have hcv1':=hcv1;have hcv2':=hcv2;rw [show wq.drewN 1=wq.drew from rfl] at hcv1' hcv2';clear hx hy hX hY hcv1 hcv2;have HI2:=Za (show wrap64 ((i:Int)+1)=((i+1:Nat):Int) by have:=HM.out;unfold wrap64;omega);by_cases heq:(strOfNums x).toList=(strOfNums y).toList
  ·rw [Ya heq] at h;have e1:((strOfNums x).toList==(strOfNums y).toList)=true:=beq_iff_eq.2 heq;have e2:((strOfNums x).toList !=(strOfNums y).toList)=false:=bne_eq_false_iff_eq.2 heq;rw [HI2.out] at h;have HH2:=Za h;clear heq h;generalize strOfNums x=sx at hcv1' e1 e2;generalize strOfNums y=sy at hcv2' e1 e2
   go_wp2_with fail
   refine bPz (n:=11) (S:=fun w'=>w'.cell? (ad.add i)=some (.slice A' xl ca)/\w'.cell? (bd.add i)=some (.slice B' yl cb)) (ds:= []) (bA 11 0) kr_ rfl rfl ⟨hcx,hcy⟩ (fun hHeld=> ?_);refine pu_ 0 17 1 ?_;refine pu_ 1 18 3 ?_;refine pu_ 2 19 7 ?_;refine pu_ 5 22 39 ?_;refine pu_ 6 23 103 ?_;refine pu_ 7 24 231 ?_;refine tk_ 3 20 239 hHeld ?_;refine tk_ 8 25 495 hHeld ?_;refine join_ (σ:=Unit) 1 (bA 11 1023) (fun _=> [(21, .string sx),(26, .string sy)]) (fun _ w'=>w'=wq.drew) ?_ ?_;rotate_left
   ·intro hCont;refine two_ (i:=4) (j:=9) (Ni:=some 21) (Nj:=some 26) (bA 11 511) (bA 11 1007) rfl rfl rfl rfl kr_ (by decide) (by decide) (fun K hK=> ?_) (fun K hK=> ?_)
    ·skip
     refine cpz (w1:= ?_) (v:= ?_) (by rfl) rfl ?_ ?_;rotate_left 2
     ·go_simp;constructor
      ·rfl
      ·rfl
     refine hK.out _ _ ⟨hcx,hcy⟩ (fun hHeld=> ?_);clear hK K;refine norm_ (a':= ?_) ?_ ?_;rotate_left
     ·show Act.put _ (some 21) _=_;simp only [Act.put,Zg,Zh,Zi,i64_w,i32_w];rfl
     refine one_ (i:=9) (N:=some 26) (bA 11 1023) rfl rfl kr_ (by decide) (fun K hK=> ?_);refine cpz (w1:= ?_) (v:= ?_) (by rfl) rfl ?_ ?_;rotate_left 2
     ·go_simp;constructor
      ·rfl
      ·rfl
     refine hK.out _ _ ⟨hcx,hcy⟩ (fun hHeld=> ?_);clear hK K;refine norm_ (a':= ?_) ?_ ?_;rotate_left
     ·show Act.put _ (some 26) _=_;simp only [Act.put,Zg,Zh,Zi,i64_w,i32_w];rfl
     exact norm_ (by simp only [putAll,Act.put,Zg,Zh,Zi]) (hCont () _ rfl)
    ·skip
     refine cpz (w1:= ?_) (v:= ?_) (by rfl) rfl ?_ ?_;rotate_left 2
     ·go_simp;constructor
      ·rfl
      ·rfl
     refine hK.out _ _ ⟨hcx,hcy⟩ (fun hHeld=> ?_);clear hK K;refine norm_ (a':= ?_) ?_ ?_;rotate_left
     ·show Act.put _ (some 26) _=_;simp only [Act.put,Zg,Zh,Zi,i64_w,i32_w];rfl
     refine one_ (i:=4) (N:=some 21) (bA 11 1023) rfl rfl kr_ (by decide) (fun K hK=> ?_);refine cpz (w1:= ?_) (v:= ?_) (by rfl) rfl ?_ ?_;rotate_left 2
     ·go_simp;constructor
      ·rfl
      ·rfl
     refine hK.out _ _ ⟨hcx,hcy⟩ (fun hHeld=> ?_);clear hK K;refine norm_ (a':= ?_) ?_ ?_;rotate_left
     ·show Act.put _ (some 21) _=_;simp only [Act.put,Zg,Zh,Zi,i64_w,i32_w];rfl
     exact norm_ (by simp only [putAll,Act.put,Zg,Zh,Zi]) (hCont () _ rfl)
   rintro _ w' rfl;have hHeld:wq.drew.cell? (ad.add i)=some (.slice A' xl ca)/\wq.drew.cell? (bd.add i)=some (.slice B' yl cb):=⟨hcx,hcy⟩;refine norm_ (a':= ?_) ?_ ?_;rotate_left
   ·simp only [putAll,Act.put,Zg,Zh,Zi];rfl
   refine pu_ 10 27 2047 ?_;refine done_ kr_ ?_;go_wp2;go_roundw
   case rel=>exact ⟨i+1,kk,m+1,by omega,by rw [HI2.out],by rw [HWM.out];rfl,HH2⟩
   case measure=>rw [HI2.out];simp [intOf];omega
  ·rw [Yb heq] at h;obtain rfl:=Zn h;have e1:((strOfNums x).toList==(strOfNums y).toList)=false:=beq_eq_false_iff_ne.2 heq;have e2:((strOfNums x).toList !=(strOfNums y).toList)=true:=bne_iff_ne.2 heq;clear heq h;generalize strOfNums x=sx at hcv1' e1 e2;generalize strOfNums y=sy at hcv2' e1 e2
   go_wp2_with fail
   refine bPz (n:=11) (S:=fun w'=>w'.cell? (ad.add i)=some (.slice A' xl ca)/\w'.cell? (bd.add i)=some (.slice B' yl cb)) (ds:= []) (bA 11 0) kr_ rfl rfl ⟨hcx,hcy⟩ (fun hHeld=> ?_);refine pu_ 0 17 1 ?_;refine pu_ 1 18 3 ?_;refine pu_ 2 19 7 ?_;refine pu_ 5 22 39 ?_;refine pu_ 6 23 103 ?_;refine pu_ 7 24 231 ?_;refine tk_ 3 20 239 hHeld ?_;refine tk_ 8 25 495 hHeld ?_;refine join_ (σ:=Unit) 1 (bA 11 1023) (fun _=> [(21, .string sx),(26, .string sy)]) (fun _ w'=>w'=wq.drew) ?_ ?_;rotate_left
   ·intro hCont;refine two_ (i:=4) (j:=9) (Ni:=some 21) (Nj:=some 26) (bA 11 511) (bA 11 1007) rfl rfl rfl rfl kr_ (by decide) (by decide) (fun K hK=> ?_) (fun K hK=> ?_)
    ·skip
     refine cpz (w1:= ?_) (v:= ?_) (by rfl) rfl ?_ ?_;rotate_left 2
     ·go_simp;constructor
      ·rfl
      ·rfl
     refine hK.out _ _ ⟨hcx,hcy⟩ (fun hHeld=> ?_);clear hK K;refine norm_ (a':= ?_) ?_ ?_;rotate_left
     ·show Act.put _ (some 21) _=_;simp only [Act.put,Zg,Zh,Zi,i64_w,i32_w];rfl
     refine one_ (i:=9) (N:=some 26) (bA 11 1023) rfl rfl kr_ (by decide) (fun K hK=> ?_);refine cpz (w1:= ?_) (v:= ?_) (by rfl) rfl ?_ ?_;rotate_left 2
     ·go_simp;constructor
      ·rfl
      ·rfl
     refine hK.out _ _ ⟨hcx,hcy⟩ (fun hHeld=> ?_);clear hK K;refine norm_ (a':= ?_) ?_ ?_;rotate_left
     ·show Act.put _ (some 26) _=_;simp only [Act.put,Zg,Zh,Zi,i64_w,i32_w];rfl
     exact norm_ (by simp only [putAll,Act.put,Zg,Zh,Zi]) (hCont () _ rfl)
    ·skip
     refine cpz (w1:= ?_) (v:= ?_) (by rfl) rfl ?_ ?_;rotate_left 2
     ·go_simp;constructor
      ·rfl
      ·rfl
     refine hK.out _ _ ⟨hcx,hcy⟩ (fun hHeld=> ?_);clear hK K;refine norm_ (a':= ?_) ?_ ?_;rotate_left
     ·show Act.put _ (some 26) _=_;simp only [Act.put,Zg,Zh,Zi,i64_w,i32_w];rfl
     refine one_ (i:=4) (N:=some 21) (bA 11 1023) rfl rfl kr_ (by decide) (fun K hK=> ?_);refine cpz (w1:= ?_) (v:= ?_) (by rfl) rfl ?_ ?_;rotate_left 2
     ·go_simp;constructor
      ·rfl
      ·rfl
     refine hK.out _ _ ⟨hcx,hcy⟩ (fun hHeld=> ?_);clear hK K;refine norm_ (a':= ?_) ?_ ?_;rotate_left
     ·show Act.put _ (some 21) _=_;simp only [Act.put,Zg,Zh,Zi,i64_w,i32_w];rfl
     exact norm_ (by simp only [putAll,Act.put,Zg,Zh,Zi]) (hCont () _ rfl)
   rintro _ w' rfl;have hHeld:wq.drew.cell? (ad.add i)=some (.slice A' xl ca)/\wq.drew.cell? (bd.add i)=some (.slice B' yl cb):=⟨hcx,hcy⟩;refine norm_ (a':= ?_) ?_ ?_;rotate_left
   ·simp only [putAll,Act.put,Zg,Zh,Zi];rfl
   refine pu_ 10 27 2047 ?_;refine done_ kr_ ?_;go_wp2;go_ret;exact ⟨rfl,by rw [HWM.out];exact ⟨m+1,rfl⟩⟩
 ·rw [Yb (by rw [HN0.out];omega)] at h;obtain rfl:=Zn h;clear h;go_wp2;go_ret;exact ⟨rfl,m,HWM.out⟩
end Go.Proofs.Xc
end
