-- Joined texts of this work (wip/tools/bundle.py).
import Derived.Test.YtpdakdcmahlghaaGreatBReconUpdates9
set_option maxHeartbeats 8000000
set_option maxRecDepth 100000
set_option linter.unusedVariables false
set_option linter.unusedSimpArgs false
section
namespace Go.Proofs.Xc
open Go.RowKit Go.Proofs.Pw Go.Proofs.Pl Go.Proofs.Pm
attribute [local go_sem] a7z a8z bjz bkz aZz a0z a9z baz
def ayz.l0:Nat->Int->Int->List Int->Int->Option (List Int)
 |0,_,_,_,_=>none
 |k+1,x0,x1,x5,x6=>if x6<x1 then (if x5.length<17592186044416 then (ayz.l0 k x0 x1 (x5++ [wrap64 (x0+x6)]) (wrap64 (x6+1))) else (none)) else (some x5)
def ayz.f (k:Nat) (a0:Int) (a1:Int):Option (List Int):=ayz.l0 k a0 a1 ([] :List Int) 0
theorem ayz.aVz: ∀k,(∀y0 y1 y2 y3,LeO (ayz.l0 k y0 y1 y2 y3) (ayz.l0 (k+1) y0 y1 y2 y3))
 |0=>fun _ _ _ _ r h=>by simp [ayz.l0] at h
 |k+1=>by
  have ih0:=ayz.aVz k
  ·intro y0 y1 y2 y3;unfold ayz.l0
   repeat' with_reducible first|apply ih0|apply Yg|apply Yh|apply Yi|refine Yj ?_ fun _=>?_
theorem ayz.mono: ∀a0 a1 k,LeO (ayz.f k a0 a1) (ayz.f (k+1) a0 a1):=by
 intro a0 a1 k;have ih0:=ayz.aVz k;unfold ayz.f
 repeat' with_reducible first|apply ih0|apply Yg|apply Yh|apply Yi|refine Yj ?_ fun _=>?_
theorem ayz.calls (k : Nat) (a0 : Int) (a1 : Int) (r : List Int) (w : World) (h : ayz.f k a0 a1 = some r) :
  Calls Tryz.prog 131 #[.int .i64 a0, .int .i64 a1] w fun e w'=> ∃v0_:Value,e= .returned (v0_)/\Kd.R (Kd.int .i64) 3 w' w.heap.size (fun _=>True) v0_ r/\Below w.heap.size w w':=by
 have HB:=Za (Zw w.heap.size w);have H:=h;clear h;unfold ayz.f at H;have H':=Za H;clear H;go_enter Tryz.func131,Tryz.ntmps131;go_wp2
 go_loopg [5,6] k (fun kq v5 v6 w'=> ∃(x5_1:List Int) (x6_1:Int),v6= .int .i64 x6_1/\Aside0 (ayz.l0 kq a0 a1 x5_1 x6_1=some r)/\Aside0 (kq<=k)/\Aside0 (Kd.R (Kd.int .i64) 3 w' w.heap.size (fun _=>True) v5 x5_1)/\Aside0 (Below w.heap.size w w'))
 case atStart=>exact ⟨(([] :List Int)),(0),sd_,H',⟨Zv _⟩,⟨nl_⟩,⟨bl_⟩⟩
 clear H';obtain ⟨x5_1,x6_1,rfl,HA,HK1,HO_5,HB⟩:=hrel;rcases gk with _|k1
 ·exact Yf HA.out (by simp [ayz.l0])
 have H:=HA.out;clear HA;simp only [ayz.l0] at H;by_cases c3:x6_1<a1
 rotate_left
 ·rw [Yb c3] at H;have c3b0:=Ze c3;clear c3;obtain rfl:=Zn H;go_wp2;go_ret;exact ⟨_,er_,xd_ HO_5.out,bl_⟩
 rw [Ya c3] at H;have c3b0:=Zd c3;clear c3;by_cases c4:x5_1.length<17592186044416
 rotate_left
 ·rw [Yb c4] at H;exact Yf H (by simp)
 rw [Ya c4] at H;have LMc4:=Za c4;clear c4;obtain ⟨y318,hy318⟩: ∃y_:List Int,y_=(x5_1++ [wrap64 (a0+x6_1)]):=⟨_,rfl⟩
 first|rw [Zl, <-hy318] at H|rw [<-hy318] at H
 (try dsimp only at H)
 have Ny318:=Za hy318;clear hy318;have H':=Za H;clear H
 go_wp2_with (first|((with_reducible refine anz (b:= .append) (xs:= #[.tmp 12, .tmp 16]) rfl ?_);at_builtin;refine Kd.bxz (Kd.int .i64) (w0:=w) w.heap.size rfl (.tmp 12) (.tmp 16) 57 3 (.int .i64 0) 8 rfl Tryz.underlying57 info3 rfl (by decide) (by omega) u5 x5_1 (wrap64 (a0+x6_1)) [.int .i64 (wrap64 (a0+x6_1))] (fun _=>True) (fun _=>False) rfl rfl ?aP (fun _ hk=>hk.elim) ?aF ?aO ?aB ?aS ?aL ?_;(case aP=>exact rfl);(case aB=>exact bl_);(case aF=>exact (fun _ _=>trivial));(case aO=>exact (xd_ HO_5.out));(case aS=>exact (aez bl_));(case aL=>have:=LMc4.out;omega);intro v319 w5 ho hb hg hat;rw [<-Ny318.out] at ho;have n_:=Zb (Za (hb)) (Za (ho));clear HB HO_5;obtain ⟨HB,HO320⟩:=n_;clear ho hb hg hat))
 go_roundg k1
 case measure=>have:=HK1.out;omega
 case rel=>exact ⟨(y318),(wrap64 (x6_1+1)),sd_,H',⟨by have:=HK1.out;omega⟩,⟨xd_ HO320.out⟩,⟨bl_⟩⟩
def bbz.f (k:Nat) (a0:Int) (a1:Int) (a2:Int) (a3:Int):Option ((List (List Int))×Bool):=(bgz.f a2 a3).bind fun t321=>(if t321=true then ((ayz.f k 0 a3).bind fun t322=>((ayz.f k a3 a2).bind fun t325=>((ajz.f k a0 a1 t322 t325).bind fun bt328=>(some (bt328.1,bt328.2))))) else (some (([] :List (List Int)),false)))
theorem bbz.mono: ∀a0 a1 a2 a3 k,LeO (bbz.f k a0 a1 a2 a3) (bbz.f (k+1) a0 a1 a2 a3):=by
 intro a0 a1 a2 a3 k;unfold bbz.f
 repeat' with_reducible first|apply ajz.mono|apply ayz.mono|apply Yg|apply Yh|apply Yi|refine Yj ?_ fun _=>?_
theorem bbz.calls (k : Nat) (a0 : Int) (a1 : Int) (a2 : Int) (a3 : Int) (r1 : List (List Int)) (r2 : Bool) (w : World) (h : bbz.f k a0 a1 a2 a3 = some (r1, r2)) :
  Calls Tryz.prog 84 #[.int .i64 a0, .int .u32 a1, .int .i64 a2, .int .i64 a3] w fun e w'=> ∃v0_:Value,e= .returned (.tuple #[v0_, .bool r2])/\Kd.S (Kd.slice 3 (Kd.int .i64)) 57 w' w.heap.size (fun _=>True) v0_ r1/\Below w.heap.size w w':=by
 have HB:=Za (Zw w.heap.size w);have H:=h;clear h;unfold bbz.f at H;obtain ⟨t321,A5,H⟩:=ob_ H
 (try dsimp only at H)
 by_cases c6:t321=true
 rotate_left
 ·replace c6:=Zr c6;subst c6;rw [Yb (show¬(false=true) by decide)] at H;simp only [Zx,Zy] at H;obtain ⟨rfl,rfl⟩:=H;go_enter Tryz.func84,Tryz.ntmps84
  go_wp2_with (first|((with_reducible refine abz (f:=129) rfl ?_);refine gl_ (some 12) Tryz.func129 #[.int .i64 a2, .int .i64 a3] ?_;(with_reducible refine (bgz.calls a2 a3 false _ A5.out).mono ?_);rintro e w' ⟨rfl,⟨nd,rfl⟩⟩;refine ⟨_,rfl,?_⟩))
  go_ret2;exact ⟨_,er_,nl_,bl_⟩
 subst c6;rw [Ya rfl] at H;obtain ⟨t322,A7,H⟩:=ob_ H
 (try dsimp only at H)
 obtain ⟨t325,A8,H⟩:=ob_ H
 (try dsimp only at H)
 obtain ⟨⟨t328,t329⟩,A9,H⟩:=ob_ H
 (try dsimp only at H)
 simp only [Zx,Zy] at H;obtain ⟨rfl,rfl⟩:=H;go_enter Tryz.func84,Tryz.ntmps84
 go_wp2_with (first|((with_reducible refine abz (f:=129) rfl ?_);refine gl_ (some 12) Tryz.func129 #[.int .i64 a2, .int .i64 a3] ?_;(with_reducible refine (bgz.calls a2 a3 true _ A5.out).mono ?_);rintro e w' ⟨rfl,⟨nd,rfl⟩⟩;refine ⟨_,rfl,?_⟩)|((with_reducible refine abz (f:=131) rfl ?_);refine gl_ (some 17) Tryz.func131 #[.int .i64 0, .int .i64 a3] ?_;(with_reducible refine (ayz.calls k 0 a3 t322 _ A7.out).mono ?_);rintro e w10 ⟨v323,rfl,ho0,hb⟩;refine ⟨_,rfl,?_⟩;have n_:=Zb (Za (Kd.bDz ho0 (aez bl_))) (hs_ HB hb);clear HB;obtain ⟨HO324,HB⟩:=n_;clear hb ho0)|((with_reducible refine abz (f:=131) rfl ?_);refine gl_ (some 20) Tryz.func131 #[.int .i64 a3, .int .i64 a2] ?_;(with_reducible refine (ayz.calls k a3 a2 t325 _ A8.out).mono ?_);rintro e w11 ⟨v326,rfl,ho0,hb⟩;refine ⟨_,rfl,?_⟩;have n_:=Zb (Za (Kd.d0z (xd_ HO324.out) (Kd.bIz ho0) hb)) (Zb (Za (Kd.bDz (Kd.R_new' ho0 (Kd.R_lt (xd_ HO324.out))) (aez bl_))) (hs_ HB hb));clear HO324 HB;obtain ⟨HO324,HO327,HB⟩:=n_;clear hb ho0;obtain ⟨Ao12,co12,eo12⟩:=Kd.aRz HO324.out;subst eo12;obtain ⟨Ao13,co13,eo13⟩:=Kd.aRz HO327.out;subst eo13)|((with_reducible refine abz (f:=130) rfl ?_);refine gl_ (some 21) Tryz.func130 #[.int .i64 a0, .int .u32 a1, .slice Ao12 t322.length co12, .slice Ao13 t325.length co13] ?_;(with_reducible refine (ajz.calls k a0 a1 _ _ t322 _ _ t325 t328 t329 _ (xd_ (Kd.aNz HO324.out).2.2) ((Kd.aNz HO324.out).2.1) (xd_ (Kd.aNz HO327.out).2.2) ((Kd.aNz HO327.out).2.1) A9.out).mono ?_);rintro e w14 ⟨v330,rfl,ho0,hb⟩;refine ⟨_,rfl,?_⟩;have n_:=Zb (Za (Kd.cDz (xd_ HO324.out) hb)) (Zb (Za (Kd.cDz (xd_ HO327.out) hb)) (Zb (Za (Kd.cJz (Kd.S_new' (Kd.S_new' ho0 (Kd.R_lt (xd_ HO324.out))) (Kd.R_lt (xd_ HO327.out))) (aez bl_))) (hs_ HB hb)));clear HO324 HO327 HB;obtain ⟨HO324,HO327,HO331,HB⟩:=n_;clear hb ho0))
 go_ret2;exact ⟨_,er_,sm_ HO331,bl_⟩
def bvz.f (k:Nat) (a0:Int) (a1:Int) (a2:Int):Option (Int):=(atz.f k a0).bind fun t332=>(if (wrap64 (t332 - 1))=0 then (none) else (if (Int.tmod a2 (wrap64 (t332 - 1)))<0 then ((aKz.f k a0 a1 2 (wrap64 ((Int.tmod a2 (wrap64 (t332 - 1)))+(wrap64 (t332 - 1))))).bind fun t333=>(some t333)) else ((aKz.f k a0 a1 2 (Int.tmod a2 (wrap64 (t332 - 1)))).bind fun t334=>(some t334))))
theorem bvz.mono: ∀a0 a1 a2 k,LeO (bvz.f k a0 a1 a2) (bvz.f (k+1) a0 a1 a2):=by
 intro a0 a1 a2 k;unfold bvz.f
 repeat' with_reducible first|apply aKz.mono|apply atz.mono|apply Yg|apply Yh|apply Yi|refine Yj ?_ fun _=>?_
theorem bvz.calls (k : Nat) (a0 : Int) (a1 : Int) (a2 : Int) (r : Int) (w : World) (h : bvz.f k a0 a1 a2 = some r) :
  Calls Tryz.prog 132 #[.int .i64 a0, .int .u32 a1, .int .i64 a2] w fun e w'=>e= .returned (.int .i64 r)/\Drawn0 w w':=by
 have H:=h;clear h;unfold bvz.f at H;obtain ⟨t332,A4,H⟩:=ob_ H
 (try dsimp only at H)
 by_cases c5:(wrap64 (t332 - 1))=0
 ·rw [Ya c5] at H;exact Yf H (by simp)
 ·rw [Yb c5] at H;have c5b0:((wrap64 (t332 - 1))==0)=false:=Zq c5;have c5b1:((wrap64 (t332 - 1)) !=0)=true:=Yd c5;by_cases c6:(Int.tmod a2 (wrap64 (t332 - 1)))<0
  ·rw [Ya c6] at H;have c6b0:=Zd c6;clear c6;obtain ⟨t333,A7,H⟩:=ob_ H
   (try dsimp only at H)
   obtain rfl:=Zn H;go_enter Tryz.func132,Tryz.ntmps132
   go_wp2_with (first|((with_reducible refine abz (f:=156) rfl ?_);refine gl_ (some 9) Tryz.func156 #[.int .i64 a0] ?_;(with_reducible refine (atz.calls k a0 t332 _ A4.out).mono ?_);rintro e w' ⟨rfl,⟨nd,rfl⟩⟩;refine ⟨_,rfl,?_⟩)|((with_reducible refine abz (f:=168) rfl ?_);refine gl_ (some 22) Tryz.func168 #[.int .i64 a0, .int .u32 a1, .int .i64 2, .int .i64 (wrap64 ((Int.tmod a2 (wrap64 (t332 - 1)))+(wrap64 (t332 - 1))))] ?_;(with_reducible refine (aKz.calls k a0 a1 2 (wrap64 ((Int.tmod a2 (wrap64 (t332 - 1)))+(wrap64 (t332 - 1)))) t333 _ A7.out).mono ?_);rintro e w' ⟨rfl,⟨nd,rfl⟩⟩;refine ⟨_,rfl,?_⟩))
   go_ret;exact ⟨sd_,dn_⟩
  ·rw [Yb c6] at H;have c6b0:=Ze c6;clear c6;obtain ⟨t334,A8,H⟩:=ob_ H
   (try dsimp only at H)
   obtain rfl:=Zn H;go_enter Tryz.func132,Tryz.ntmps132
   go_wp2_with (first|((with_reducible refine abz (f:=156) rfl ?_);refine gl_ (some 9) Tryz.func156 #[.int .i64 a0] ?_;(with_reducible refine (atz.calls k a0 t332 _ A4.out).mono ?_);rintro e w' ⟨rfl,⟨nd,rfl⟩⟩;refine ⟨_,rfl,?_⟩)|((with_reducible refine abz (f:=168) rfl ?_);refine gl_ (some 22) Tryz.func168 #[.int .i64 a0, .int .u32 a1, .int .i64 2, .int .i64 (Int.tmod a2 (wrap64 (t332 - 1)))] ?_;(with_reducible refine (aKz.calls k a0 a1 2 (Int.tmod a2 (wrap64 (t332 - 1))) t334 _ A8.out).mono ?_);rintro e w' ⟨rfl,⟨nd,rfl⟩⟩;refine ⟨_,rfl,?_⟩))
   go_ret;exact ⟨sd_,dn_⟩
mutual
def apz.l0:Nat->Int->Int->Int->Int->List (List Int)->Int->Option ((List (List Int))×Bool)
 |0,_,_,_,_,_,_=>none
 |k+1,x0,x1,x2,x3,x10,x11=>if x11<x3 then (apz.l1 k x0 x1 x2 x3 x10 x11 ([] :List Int) 0) else (some (x10,true))
def apz.l1:Nat->Int->Int->Int->Int->List (List Int)->Int->List Int->Int->Option ((List (List Int))×Bool)
 |0,_,_,_,_,_,_,_,_=>none
 |k+1,x0,x1,x2,x3,x10,x11,x12,x13=>if x13<x2 then ((bvz.f k x0 x1 (wrap64 (x11*x13))).bind fun t336=>(if x12.length<17592186044416 then (apz.l1 k x0 x1 x2 x3 x10 x11 (x12++ [t336]) (wrap64 (x13+1))) else (none))) else (if x10.length<5864062014805 then (apz.l0 k x0 x1 x2 x3 (x10++ [x12]) (wrap64 (x11+1))) else (none))
end
def apz.f (k:Nat) (a0:Int) (a1:Int) (a2:Int) (a3:Int):Option ((List (List Int))×Bool):=(bgz.f a2 a3).bind fun t335=>(if t335=true then (apz.l0 k a0 a1 a2 a3 ([] :List (List Int)) 0) else (some (([] :List (List Int)),false)))
theorem apz.aVz: ∀k,(∀y0 y1 y2 y3 y4 y5,LeO (apz.l0 k y0 y1 y2 y3 y4 y5) (apz.l0 (k+1) y0 y1 y2 y3 y4 y5))/\(∀y0 y1 y2 y3 y4 y5 y6 y7,LeO (apz.l1 k y0 y1 y2 y3 y4 y5 y6 y7) (apz.l1 (k+1) y0 y1 y2 y3 y4 y5 y6 y7))
 |0=>⟨fun _ _ _ _ _ _ r h=>by simp [apz.l0] at h,fun _ _ _ _ _ _ _ _ r h=>by simp [apz.l1] at h⟩
 |k+1=>by
  obtain ⟨ih0,ih1⟩:=apz.aVz k;refine ⟨?_,?_⟩
  ·intro y0 y1 y2 y3 y4 y5;unfold apz.l0
   repeat' with_reducible first|apply ih0|apply ih1|apply bvz.mono|apply Yg|apply Yh|apply Yi|refine Yj ?_ fun _=>?_
  ·intro y0 y1 y2 y3 y4 y5 y6 y7;unfold apz.l1
   repeat' with_reducible first|apply ih0|apply ih1|apply bvz.mono|apply Yg|apply Yh|apply Yi|refine Yj ?_ fun _=>?_
theorem apz.mono: ∀a0 a1 a2 a3 k,LeO (apz.f k a0 a1 a2 a3) (apz.f (k+1) a0 a1 a2 a3):=by
 intro a0 a1 a2 a3 k;obtain ⟨ih0,ih1⟩:=apz.aVz k;unfold apz.f
 repeat' with_reducible first|apply ih0|apply ih1|apply bvz.mono|apply Yg|apply Yh|apply Yi|refine Yj ?_ fun _=>?_
theorem apz.calls (k : Nat) (a0 : Int) (a1 : Int) (a2 : Int) (a3 : Int) (r1 : List (List Int)) (r2 : Bool) (w : World) (h : apz.f k a0 a1 a2 a3 = some (r1, r2)) :
  Calls Tryz.prog 85 #[.int .i64 a0, .int .u32 a1, .int .i64 a2, .int .i64 a3] w fun e w'=> ∃v0_:Value,e= .returned (.tuple #[v0_, .bool r2])/\Kd.S (Kd.slice 3 (Kd.int .i64)) 57 w' w.heap.size (fun _=>True) v0_ r1/\Below w.heap.size w w':=by
 have HB:=Za (Zw w.heap.size w);have H:=h;clear h;unfold apz.f at H;obtain ⟨t335,A5,H⟩:=ob_ H
 (try dsimp only at H)
 by_cases c6:t335=true
 rotate_left
 ·replace c6:=Zr c6;subst c6;rw [Yb (show¬(false=true) by decide)] at H;simp only [Zx,Zy] at H;obtain ⟨rfl,rfl⟩:=H;go_enter Tryz.func85,Tryz.ntmps85
  go_wp2_with (first|((with_reducible refine abz (f:=129) rfl ?_);refine gl_ (some 16) Tryz.func129 #[.int .i64 a2, .int .i64 a3] ?_;(with_reducible refine (bgz.calls a2 a3 false _ A5.out).mono ?_);rintro e w' ⟨rfl,⟨nd,rfl⟩⟩;refine ⟨_,rfl,?_⟩))
  go_ret2;exact ⟨_,er_,nl_,bl_⟩
 subst c6;rw [Ya rfl] at H;have H':=Za H;clear H;go_enter Tryz.func85,Tryz.ntmps85
 go_wp2_with (first|((with_reducible refine abz (f:=129) rfl ?_);refine gl_ (some 16) Tryz.func129 #[.int .i64 a2, .int .i64 a3] ?_;(with_reducible refine (bgz.calls a2 a3 true _ A5.out).mono ?_);rintro e w' ⟨rfl,⟨nd,rfl⟩⟩;refine ⟨_,rfl,?_⟩))
 go_loopg [10,11] k (fun kq v10 v11 w'=> ∃(x10_1:List (List Int)) (x11_1:Int),v11= .int .i64 x11_1/\Aside0 (apz.l0 kq a0 a1 a2 a3 x10_1 x11_1=some (r1,r2))/\Aside0 (kq<=k)/\Aside0 (Kd.S (Kd.slice 3 (Kd.int .i64)) 57 w' w.heap.size (fun _=>True) v10 x10_1)/\Aside0 (Below w.heap.size w w'))
 case atStart=>exact ⟨(([] :List (List Int))),(0),sd_,H',⟨Zv _⟩,⟨nl_⟩,⟨bl_⟩⟩
 clear H';obtain ⟨x10_1,x11_1,rfl,HA,HK1,HO_10,HB⟩:=hrel;rcases gk with _|k1
 ·exact Yf HA.out (by simp [apz.l0])
 have H:=HA.out;clear HA;simp only [apz.l0] at H;by_cases c7:x11_1<a3
 rotate_left
 ·rw [Yb c7] at H;have c7b0:=Ze c7;clear c7;simp only [Zx,Zy] at H;obtain ⟨rfl,rfl⟩:=H;go_wp2;go_ret2;exact ⟨_,er_,xd_ HO_10.out,bl_⟩
 rw [Ya c7] at H;have c7b0:=Zd c7;clear c7;have H':=Za H;clear H;go_wp2
 go_loopg [12,13] k1 (fun kq v12 v13 w'=> ∃(x12_2:List Int) (x13_2:Int),v13= .int .i64 x13_2/\Aside0 (apz.l1 kq a0 a1 a2 a3 x10_1 x11_1 x12_2 x13_2=some (r1,r2))/\Aside0 (kq<=k1)/\Aside0 (Kd.S (Kd.slice 3 (Kd.int .i64)) 57 w' w.heap.size (fun k_=>some k_≠(v12:Value).ownBlock) u10 x10_1)/\Aside0 (Kd.R (Kd.int .i64) 3 w' w.heap.size (fun _=>True) v12 x12_2)/\Aside0 (Below w.heap.size w w'))
 case atStart=>exact ⟨(([] :List Int)),(0),sd_,H',⟨Zv _⟩,⟨sm_ HO_10⟩,⟨nl_⟩,⟨bl_⟩⟩
 clear H';clear c7b0;obtain ⟨x12_2,x13_2,rfl,HA,HK2,HO_10,HO_12,HB⟩:=hrel;rcases gk with _|k2
 ·exact Yf HA.out (by simp [apz.l1])
 have H:=HA.out;clear HA;simp only [apz.l1] at H;by_cases c8:x13_2<a2
 ·rw [Ya c8] at H;have c8b0:=Zd c8;clear c8;obtain ⟨t336,A9,H⟩:=ob_ H
  (try dsimp only at H)
  by_cases c10:x12_2.length<17592186044416
  rotate_left
  ·rw [Yb c10] at H;exact Yf H (by simp)
  rw [Ya c10] at H;have LMc10:=Za c10;clear c10;obtain ⟨y337,hy337⟩: ∃y_:List Int,y_=(x12_2++ [t336]):=⟨_,rfl⟩
  first|rw [Zl, <-hy337] at H|rw [<-hy337] at H
  (try dsimp only at H)
  have Ny337:=Za hy337;clear hy337;have H':=Za H;clear H
  go_wp2_with (first|((with_reducible refine abz (f:=132) rfl ?_);refine gl_ (some 34) Tryz.func132 #[.int .i64 a0, .int .u32 a1, .int .i64 (wrap64 (x11_1*x13_2))] ?_;(with_reducible refine (bvz.calls k2 a0 a1 (wrap64 (x11_1*x13_2)) t336 _ A9.out).mono ?_);rintro e w' ⟨rfl,⟨nd,rfl⟩⟩;refine ⟨_,rfl,?_⟩)|((with_reducible refine anz (b:= .append) (xs:= #[.tmp 28, .tmp 35]) rfl ?_);at_builtin;refine Kd.bxz (Kd.int .i64) (w0:=w) w.heap.size rfl (.tmp 28) (.tmp 35) 57 3 (.int .i64 0) 8 rfl Tryz.underlying57 info3 rfl (by decide) (by omega) u12 x12_2 t336 [.int .i64 t336] (fun _=>True) (fun _=>False) rfl rfl ?aP (fun _ hk=>hk.elim) ?aF ?aO ?aB ?aS ?aL ?_;(case aP=>exact rfl);(case aB=>exact bl_);(case aF=>exact (fun _ _=>trivial));(case aO=>exact (xd_ HO_12.out));(case aS=>exact (aez bl_));(case aL=>have:=LMc10.out;omega);intro v338 w11 ho hb hg hat;rw [<-Ny337.out] at ho;have n_:=Zb (Za (Kd.cYz (ok:=(fun _=>True)) (sm_ HO_10) hg hat)) (Zb (Za (hb)) (Za (ho)));clear HO_10 HB HO_12;obtain ⟨HO_10,HB,HO339⟩:=n_;clear ho hb hg hat))
  go_roundg k2
  case measure=>have:=HK1.out;have:=HK2.out;omega
  case rel=>exact ⟨(y337),(wrap64 (x13_2+1)),sd_,H',⟨by have:=HK1.out;have:=HK2.out;omega⟩,⟨sm_ HO_10⟩,⟨xd_ HO339.out⟩,⟨bl_⟩⟩
 ·rw [Yb c8] at H;have c8b0:=Ze c8;clear c8;by_cases c12:x10_1.length<5864062014805
  rotate_left
  ·rw [Yb c12] at H;exact Yf H (by simp)
  rw [Ya c12] at H;have LMc12:=Za c12;clear c12;obtain ⟨y340,hy340⟩: ∃y_:List (List Int),y_=(x10_1++ [x12_2]):=⟨_,rfl⟩
  first|rw [Zl, <-hy340] at H|rw [<-hy340] at H
  (try dsimp only at H)
  have Ny340:=Za hy340;clear hy340;have H':=Za H;clear H;obtain ⟨Ao14,co14,eo14⟩:=Kd.aRz HO_12.out;subst eo14
  go_wp2_with (first|((with_reducible refine anz (b:= .append) (xs:= #[.tmp 37, .tmp 39]) rfl ?_);at_builtin;refine Kd.bLz (Kd.slice 3 (Kd.int .i64)) (w0:=w) w.heap.size rfl (.tmp 37) (.tmp 39) 68 57 (.slice none 0 0) 24 rfl Tryz.underlying68 info57 rfl (by decide) (by omega) u10 x10_1 x12_2 [.slice Ao14 x12_2.length co14] (fun _=>True) (fun k_=>some k_=(.slice Ao14 x12_2.length co14:Value).ownBlock) rfl rfl ?aP (fun k_ hk_=>((Kd.aJz (ok':=fun k_=>((fun _=>True)) k_/\some k_≠(u10:Value).ownBlock) (Kd.brz (HO_12.out) (Kd.bNz HO_10.out) (by decide)) (fun k_ hk=>⟨trivial,hk.2⟩))).1 k_ hk_.symm) ?aF ?aO ?aB ?aS ?aL ?_;(case aP=>exact Kd.M_row (Kd.aJz (Kd.ciz rfl (Kd.aJz (ok':=fun k_=>((fun _=>True)) k_/\some k_≠(u10:Value).ownBlock) (Kd.brz (HO_12.out) (Kd.bNz HO_10.out) (by decide)) (fun k_ hk=>⟨trivial,hk.2⟩))) (fun _ h_=>h_)));(case aB=>exact bl_);(case aF=>exact (fun _ _=>trivial));(case aO=>exact (sm_ HO_10));(case aS=>exact (aez bl_));(case aL=>have:=LMc12.out;omega);intro v341 w13 ho hb hg hat;rw [<-Ny340.out] at ho;have n_:=Zb (Za (hb)) (Za (ho));clear HB HO_10 HO_12;obtain ⟨HB,HO342⟩:=n_;clear ho hb hg hat))
  go_roundg k2
  case measure=>have:=HK1.out;have:=HK2.out;omega
  case rel=>exact ⟨(y340),(wrap64 (x11_1+1)),sd_,H',⟨by have:=HK1.out;have:=HK2.out;omega⟩,⟨xd_ HO342.out⟩,⟨bl_⟩⟩
def biz.f (a0_0:Int) (a0_1:Int) (a0_2:Int):Option (Bool):=(a4z.f a0_0).bind fun bt443=>(if bt443.2.2.2.2.2=true then (if a0_1>=1 then (if a0_1<=8 then (if a0_2>=1 then (some (decide (a0_2<=bt443.2.2.2.2.1))) else (some false)) else (some false)) else (some false)) else (some false))
theorem biz.calls (a0_0:Int) (a0_1:Int) (a0_2:Int) (r:Bool) (w:World) (h:biz.f a0_0 a0_1 a0_2=some r):
 Calls Tryz.prog 48 #[.agg #[.int .i64 a0_0, .int .i64 a0_1, .int .i64 a0_2]] w fun e w'=>e= .returned (.bool r)/\Below w.heap.size w w':=by
 have hu23:=Tryz.underlying23;have hu79:=Tryz.underlying79;have HB:=Za (Zw w.heap.size w);have H:=h;clear h;unfold biz.f at H;obtain ⟨⟨t443,t444,t445,t446,t447,t448⟩,A2,H⟩:=ob_ H
 (try dsimp only at H)
 have HH:=Za H;clear H;go_enter Tryz.func48,Tryz.ntmps48
 go_wp2_with (first|((with_reducible refine blz (N:=1) rfl ?_);refine bx_ 1 #[.int .i64 a0_0, .int .i64 a0_1, .int .i64 a0_2] 23 ?_;intro gb442 hg w7 hbox hb;have n_:=Zb (hs_ HB hb) (Zb (Za (hbox)) (Zb (ag_ HB gb442) (ag_ HB gb442)));clear HB;obtain ⟨HB,BK442,GW442,GE442⟩:=n_;clear hb hbox hg;obtain ⟨_,_,_,_,_,_⟩:=bc3_ BK442.out)|((with_reducible refine abz (f:=50) rfl ?_);refine gl_ (some 8) Tryz.func50 #[.int .i64 a0_0] ?_;(with_reducible refine (a4z.calls a0_0 t443 t444 t445 t446 t447 t448 _ A2.out).mono ?_);rintro e w9 ⟨rfl,hb⟩;refine ⟨_,rfl,?_⟩;have n_:=Zb (bb_ BK442 hb) (hs_ HB hb);clear BK442 HB;obtain ⟨BK442,HB⟩:=n_;(try clear hb))|((with_reducible refine blz (N:=3) rfl ?_);refine cxz ?hg (N:=3) ?hd (cs:= #[.string (⟨#[]⟩:ByteArray), .int .i64 0, .int .u32 0, .int .u8 0, .int .i64 0]) (t:=79) ?hr ?_;(case hd=>rfl);(case hg=>rfl);(case hr=>first|(go_simp;done)|(go_simp;rfl));intro gb449 hg w10 hbox hb;have n_:=Zb (bb_ BK442 hb) (Zb (hs_ HB hb) (Zb (Za (hbox)) (Zb (ag_ HB gb449) (Zb (ag_ HB gb449) (Zb (n1_ BK442 gb449) (n2_ BK442 gb449))))));clear BK442 HB;obtain ⟨BK442,HB,BK449,GW449,GE449,NB442_449,NB449_442⟩:=n_;clear hb hbox hg;have hnb11:=NB449_442.out;have hnc11:=NB442_449.out;obtain ⟨_,_,_,_,_,_,_,_,_,_⟩:=bc5_ BK449.out;obtain ⟨_,_,_,_,_,_⟩:=bc3_ BK442.out))
 all_goals
  go_ret;refine ⟨congrArg (fun b=>Ending.returned (.bool b)) ?_,bl_⟩;have H:=HH.out
  simp_all
 all_goals (rw [Yb (by omega)] at H;simp_all)
def bcz.f (k:Nat) (a0:Int) (a1:Int) (a2:Int) (a3:Int):Option ((List (List Int))×Bool):=(bgz.f a2 a3).bind fun t343=>(if t343=true then ((ayz.f k a2 a3).bind fun t344=>((ayz.f k 0 a2).bind fun t347=>((ajz.f k a0 a1 t344 t347).bind fun bt350=>(some (bt350.1,bt350.2))))) else (some (([] :List (List Int)),false)))
theorem bcz.mono: ∀a0 a1 a2 a3 k,LeO (bcz.f k a0 a1 a2 a3) (bcz.f (k+1) a0 a1 a2 a3):=by
 intro a0 a1 a2 a3 k;unfold bcz.f
 repeat' with_reducible first|apply ajz.mono|apply ayz.mono|apply Yg|apply Yh|apply Yi|refine Yj ?_ fun _=>?_
theorem bcz.calls (k : Nat) (a0 : Int) (a1 : Int) (a2 : Int) (a3 : Int) (r1 : List (List Int)) (r2 : Bool) (w : World) (h : bcz.f k a0 a1 a2 a3 = some (r1, r2)) :
  Calls Tryz.prog 86 #[.int .i64 a0, .int .u32 a1, .int .i64 a2, .int .i64 a3] w fun e w'=> ∃v0_:Value,e= .returned (.tuple #[v0_, .bool r2])/\Kd.S (Kd.slice 3 (Kd.int .i64)) 57 w' w.heap.size (fun _=>True) v0_ r1/\Below w.heap.size w w':=by
 have HB:=Za (Zw w.heap.size w);have H:=h;clear h;unfold bcz.f at H;obtain ⟨t343,A5,H⟩:=ob_ H
 (try dsimp only at H)
 by_cases c6:t343=true
 rotate_left
 ·replace c6:=Zr c6;subst c6;rw [Yb (show¬(false=true) by decide)] at H;simp only [Zx,Zy] at H;obtain ⟨rfl,rfl⟩:=H;go_enter Tryz.func86,Tryz.ntmps86
  go_wp2_with (first|((with_reducible refine abz (f:=129) rfl ?_);refine gl_ (some 12) Tryz.func129 #[.int .i64 a2, .int .i64 a3] ?_;(with_reducible refine (bgz.calls a2 a3 false _ A5.out).mono ?_);rintro e w' ⟨rfl,⟨nd,rfl⟩⟩;refine ⟨_,rfl,?_⟩))
  go_ret2;exact ⟨_,er_,nl_,bl_⟩
 subst c6;rw [Ya rfl] at H;obtain ⟨t344,A7,H⟩:=ob_ H
 (try dsimp only at H)
 obtain ⟨t347,A8,H⟩:=ob_ H
 (try dsimp only at H)
 obtain ⟨⟨t350,t351⟩,A9,H⟩:=ob_ H
 (try dsimp only at H)
 simp only [Zx,Zy] at H;obtain ⟨rfl,rfl⟩:=H;go_enter Tryz.func86,Tryz.ntmps86
 go_wp2_with (first|((with_reducible refine abz (f:=129) rfl ?_);refine gl_ (some 12) Tryz.func129 #[.int .i64 a2, .int .i64 a3] ?_;(with_reducible refine (bgz.calls a2 a3 true _ A5.out).mono ?_);rintro e w' ⟨rfl,⟨nd,rfl⟩⟩;refine ⟨_,rfl,?_⟩)|((with_reducible refine abz (f:=131) rfl ?_);refine gl_ (some 18) Tryz.func131 #[.int .i64 a2, .int .i64 a3] ?_;(with_reducible refine (ayz.calls k a2 a3 t344 _ A7.out).mono ?_);rintro e w10 ⟨v345,rfl,ho0,hb⟩;refine ⟨_,rfl,?_⟩;have n_:=Zb (Za (Kd.bDz ho0 (aez bl_))) (hs_ HB hb);clear HB;obtain ⟨HO346,HB⟩:=n_;clear hb ho0)|((with_reducible refine abz (f:=131) rfl ?_);refine gl_ (some 20) Tryz.func131 #[.int .i64 0, .int .i64 a2] ?_;(with_reducible refine (ayz.calls k 0 a2 t347 _ A8.out).mono ?_);rintro e w11 ⟨v348,rfl,ho0,hb⟩;refine ⟨_,rfl,?_⟩;have n_:=Zb (Za (Kd.d0z (xd_ HO346.out) (Kd.bIz ho0) hb)) (Zb (Za (Kd.bDz (Kd.R_new' ho0 (Kd.R_lt (xd_ HO346.out))) (aez bl_))) (hs_ HB hb));clear HO346 HB;obtain ⟨HO346,HO349,HB⟩:=n_;clear hb ho0;obtain ⟨Ao12,co12,eo12⟩:=Kd.aRz HO346.out;subst eo12;obtain ⟨Ao13,co13,eo13⟩:=Kd.aRz HO349.out;subst eo13)|((with_reducible refine abz (f:=130) rfl ?_);refine gl_ (some 21) Tryz.func130 #[.int .i64 a0, .int .u32 a1, .slice Ao12 t344.length co12, .slice Ao13 t347.length co13] ?_;(with_reducible refine (ajz.calls k a0 a1 _ _ t344 _ _ t347 t350 t351 _ (xd_ (Kd.aNz HO346.out).2.2) ((Kd.aNz HO346.out).2.1) (xd_ (Kd.aNz HO349.out).2.2) ((Kd.aNz HO349.out).2.1) A9.out).mono ?_);rintro e w14 ⟨v352,rfl,ho0,hb⟩;refine ⟨_,rfl,?_⟩;have n_:=Zb (Za (Kd.cDz (xd_ HO346.out) hb)) (Zb (Za (Kd.cDz (xd_ HO349.out) hb)) (Zb (Za (Kd.cJz (Kd.S_new' (Kd.S_new' ho0 (Kd.R_lt (xd_ HO346.out))) (Kd.R_lt (xd_ HO349.out))) (aez bl_))) (hs_ HB hb)));clear HO346 HO349 HB;obtain ⟨HO346,HO349,HO353,HB⟩:=n_;clear hb ho0))
 go_ret2;exact ⟨_,er_,sm_ HO353,bl_⟩
def a1z.f (k:Nat) (a0:Int) (a1:Int) (a2:Int) (a3:Int):Option ((List (List Int))×Bool):=(bgz.f a2 a3).bind fun t354=>(if t354=true then ((aoz.f k a0 a1 (wrap64 (a2+a3)) a2).bind fun bt355=>(if 0<=a2 then (if a2<=(bt355.1.length:Int) then ((ahz.f k a0 a1 (bt355.1.take (a2:Int).toNat)).bind fun bt364=>((akz.f k a0 a1 bt355.1 bt364.1).bind fun bt368=>(some (bt368.1,bt368.2)))) else (none)) else (none))) else (some (([] :List (List Int)),false)))
theorem a1z.mono: ∀a0 a1 a2 a3 k,LeO (a1z.f k a0 a1 a2 a3) (a1z.f (k+1) a0 a1 a2 a3):=by
 intro a0 a1 a2 a3 k;unfold a1z.f
 repeat' with_reducible first|apply akz.mono|apply ahz.mono|apply aoz.mono|apply Yg|apply Yh|apply Yi|refine Yj ?_ fun _=>?_
theorem a1z.calls (k : Nat) (a0 : Int) (a1 : Int) (a2 : Int) (a3 : Int) (r1 : List (List Int)) (r2 : Bool) (w : World) (h : a1z.f k a0 a1 a2 a3 = some (r1, r2)) :
  Calls Tryz.prog 87 #[.int .i64 a0, .int .u32 a1, .int .i64 a2, .int .i64 a3] w fun e w'=> ∃v0_:Value,e= .returned (.tuple #[v0_, .bool r2])/\Kd.N (Kd.slice 3 (Kd.int .i64)) 57 w' w.heap.size (fun k_=>(w.heap.size<=k_)) v0_ r1/\Below w.heap.size w w':=by
 have HB:=Za (Zw w.heap.size w);have H:=h;clear h;unfold a1z.f at H;obtain ⟨t354,A5,H⟩:=ob_ H
 (try dsimp only at H)
 by_cases c6:t354=true
 rotate_left
 ·replace c6:=Zr c6;subst c6;rw [Yb (show¬(false=true) by decide)] at H;simp only [Zx,Zy] at H;obtain ⟨rfl,rfl⟩:=H;go_enter Tryz.func87,Tryz.ntmps87
  go_wp2_with (first|((with_reducible refine abz (f:=129) rfl ?_);refine gl_ (some 16) Tryz.func129 #[.int .i64 a2, .int .i64 a3] ?_;(with_reducible refine (bgz.calls a2 a3 false _ A5.out).mono ?_);rintro e w' ⟨rfl,⟨nd,rfl⟩⟩;refine ⟨_,rfl,?_⟩))
  go_ret2;exact ⟨_,er_,nl_,bl_⟩
 subst c6;rw [Ya rfl] at H;obtain ⟨⟨t355,t356⟩,A7,H⟩:=ob_ H
 (try dsimp only at H)
 by_cases c8:0<=a2
 rotate_left
 ·rw [Yb c8] at H;exact Yf H (by simp)
 rw [Ya c8] at H;have c8b0:=Zz c8;have c8b1:=Zd c8;clear c8;by_cases c9:a2<=(t355.length:Int)
 rotate_left
 ·rw [Yb c9] at H;exact Yf H (by simp)
 rw [Ya c9] at H;have c9b0:=Zz c9;have c9b1:=Zd c9;clear c9;obtain ⟨y359,hy359⟩: ∃y_:List (List Int),y_=(t355.take (a2:Int).toNat):=⟨_,rfl⟩
 first|rw [Zl, <-hy359] at H|rw [<-hy359] at H
 (try dsimp only at H)
 have Ny359:=Za hy359;clear hy359;obtain ⟨⟨t364,t367⟩,A10,H⟩:=ob_ H
 (try dsimp only at H)
 obtain ⟨⟨t368,t369⟩,A11,H⟩:=ob_ H
 (try dsimp only at H)
 simp only [Zx,Zy] at H;obtain ⟨rfl,rfl⟩:=H;go_enter Tryz.func87,Tryz.ntmps87
 go_wp2_with (first|((with_reducible refine abz (f:=129) rfl ?_);refine gl_ (some 16) Tryz.func129 #[.int .i64 a2, .int .i64 a3] ?_;(with_reducible refine (bgz.calls a2 a3 true _ A5.out).mono ?_);rintro e w' ⟨rfl,⟨nd,rfl⟩⟩;refine ⟨_,rfl,?_⟩)|((with_reducible refine abz (f:=133) rfl ?_);refine gl_ (some 25) Tryz.func133 #[.int .i64 a0, .int .u32 a1, .int .i64 (wrap64 (a2+a3)), .int .i64 a2] ?_;(with_reducible refine (aoz.calls k a0 a1 (wrap64 (a2+a3)) a2 t355 t356 _ A7.out).mono ?_);rintro e w12 ⟨v357,rfl,ho0,hb⟩;refine ⟨_,rfl,?_⟩;have n_:=Zb (Za (Kd.cbz (Kd.cnz (ok':=fun k_=>(w.heap.size<=k_)) (Kd.S_N (Kd.bFz ho0)) (fun k_ hk_=>(Zt (aez bl_) hk_.2.1))) (aez bl_))) (hs_ HB hb);clear HB;obtain ⟨HO358,HB⟩:=n_;clear hb ho0;obtain ⟨Ao14,co14,eo14⟩:=Kd.cRz HO358.out;subst eo14;have q13:(a2:Int)<=((t355.length:Int):Int):=Zc as_;obtain ⟨i013,hi013,_,hsz13,_⟩:=info_parts info57;have hroom13:t355.length<=co14:=(Kd.bnz HO358.out).2.1;have hC13:Kd.F (Kd.slice 3 (Kd.int .i64)) _ _ Ao14 t355.length t355:=(Kd.V_at (base:=w.heap.size) (Kd.N_V HO358.out)).2.2;have hcut13:=cut_to (P:=Tryz.prog) 68 57 .i64 Tryz.underlying68 hi013 Ao14 t355.length co14 a2 (Zc as_) q13 hroom13;have hr13:=Kd.F_take (m:=(a2:Int).toNat) hC13 (by omega);have hy13:y359.length=(a2:Int).toNat:=(by rw [Ny359.out,List.length_take];omega);rw [<-Ny359.out] at hr13;rw [<-hy13] at hcut13;have HO363:=Za (show Kd.V (Kd.slice 3 (Kd.int .i64)) 57 _ w.heap.size _ (.slice Ao14 y359.length co14) y359 from Kd.V_mk (by omega) hr13);have HC363:=Za (show y359.length<=co14 from by omega);clear hr13 hC13 hroom13 hi013 hsz13;have KY13:=Za hy13;clear hy13;replace q13:=Zz q13)|((with_reducible refine abz (f:=64) rfl ?_);refine gl_ (some 34) Tryz.func64 #[.int .i64 a0, .int .u32 a1, .slice Ao14 y359.length co14] ?_;(with_reducible refine (ahz.calls k a0 a1 _ _ y359 t364 t367 _ (xd_ (Kd.bCz HO363.out).2.2) ((Kd.bCz HO363.out).2.1) A10.out).mono ?_);rintro e w15 ⟨v365,rfl,ho0,hb⟩;refine ⟨_,rfl,?_⟩;have n_:=Zb (Za (Kd.cpz (xd_ HO358.out) (Kd.czz ho0) hb)) (Zb (Za (Kd.bPz (xd_ HO363.out) (Kd.czz ho0) hb)) (Zb (Za (Kd.cbz (Kd.cnz (ok':=fun k_=>(w.heap.size<=k_)/\some k_≠(.slice Ao14 t355.length co14:Value).ownBlock) ho0 (fun k_ hk_=>⟨(Zt (aez bl_) hk_),(Kd.fresh' (Kd.N_lt (xd_ HO358.out)) k_ hk_)⟩)) (aez bl_))) (hs_ HB hb)));clear HO358 HO363 HB;obtain ⟨HO358,HO363,HO366,HB⟩:=n_;clear hb ho0;obtain ⟨Ao16,co16,eo16⟩:=Kd.cRz HO366.out;subst eo16)|((with_reducible refine abz (f:=127) rfl ?_);refine gl_ (some 41) Tryz.func127 #[.int .i64 a0, .int .u32 a1, .slice Ao14 t355.length co14, .slice Ao16 t364.length co16] ?_;(with_reducible refine (akz.calls k a0 a1 _ _ t355 _ _ t364 t368 t369 _ (xd_ (Kd.bnz HO358.out).2.2) ((Kd.bnz HO358.out).2.1) (xd_ (Kd.bnz HO366.out).2.2) ((Kd.bnz HO366.out).2.1) A11.out).mono ?_);rintro e w17 ⟨v370,rfl,ho0,hb⟩;refine ⟨_,rfl,?_⟩;have n_:=Zb (Za (Kd.cpz (xd_ HO358.out) (Kd.ecz ho0) hb)) (Zb (Za (Kd.bPz (xd_ HO363.out) (Kd.ecz ho0) hb)) (Zb (Za (Kd.cpz (xd_ HO366.out) (Kd.ecz ho0) hb)) (Zb (Za (Kd.cbz (Kd.cnz (ok':=fun k_=>(w.heap.size<=k_)/\some k_≠(.slice Ao14 t355.length co14:Value).ownBlock/\some k_≠(.slice Ao16 t364.length co16:Value).ownBlock) (Kd.S_N (Kd.bFz ho0)) (fun k_ hk_=>⟨(Zt (aez bl_) hk_.2.1),(Kd.fresh' (Kd.N_lt (xd_ HO358.out)) k_ hk_.2.1),(Kd.fresh' (Kd.N_lt (xd_ HO366.out)) k_ hk_.2.1)⟩)) (aez bl_))) (hs_ HB hb))));clear HO358 HO363 HO366 HB;obtain ⟨HO358,HO363,HO366,HO371,HB⟩:=n_;clear hb ho0))
 go_ret2;exact ⟨_,er_,nm_ HO371,bl_⟩
def bqz.f (k:Nat) (a0_0:Int) (a0_1:Int) (a0_2:Int):Option ((List (List Int))×Bool):=(biz.f a0_0 a0_1 a0_2).bind fun t373=>(if t373=true then ((a4z.f a0_0).bind fun bt374=>(if a0_0=1 then ((acz.f k bt374.2.1 bt374.2.2.1 a0_1 a0_2).bind fun bt381=>(some (bt381.1,bt381.2))) else (if a0_0=2 then ((bbz.f k bt374.2.1 bt374.2.2.1 a0_1 a0_2).bind fun bt385=>(some (bt385.1,bt385.2))) else (if a0_0=3 then ((apz.f k bt374.2.1 bt374.2.2.1 a0_1 a0_2).bind fun bt389=>(some (bt389.1,bt389.2))) else (if a0_0=4 then ((bcz.f k bt374.2.1 bt374.2.2.1 a0_1 a0_2).bind fun bt393=>(some (bt393.1,bt393.2))) else ((a1z.f k bt374.2.1 bt374.2.2.1 a0_1 a0_2).bind fun bt397=>(if 0<=a0_1 then (if a0_1<=(bt397.1.length:Int) then (some ((bt397.1.drop (a0_1:Int).toNat),bt397.2)) else (none)) else (none)))))))) else (some (([] :List (List Int)),false)))
theorem bqz.mono: ∀a0 a1 a2 k,LeO (bqz.f k a0 a1 a2) (bqz.f (k+1) a0 a1 a2):=by
 intro a0 a1 a2 k;unfold bqz.f
 repeat' with_reducible first|apply apz.mono|apply a1z.mono|apply acz.mono|apply bcz.mono|apply bbz.mono|apply Yg|apply Yh|apply Yi|refine Yj ?_ fun _=>?_
theorem bqz.calls (k : Nat) (a0_0 : Int) (a0_1 : Int) (a0_2 : Int) (r1 : List (List Int)) (r2 : Bool) (w : World) (h : bqz.f k a0_0 a0_1 a0_2 = some (r1, r2)) :
  Calls Tryz.prog 51 #[.agg #[.int .i64 a0_0, .int .i64 a0_1, .int .i64 a0_2]] w fun e w'=> ∃v0_:Value,e= .returned (.tuple #[v0_, .bool r2])/\Kd.V (Kd.slice 3 (Kd.int .i64)) 57 w' w.heap.size (fun k_=>(w.heap.size<=k_)) v0_ r1/\Below w.heap.size w w':=by
 have hu23:=Tryz.underlying23;have hu79:=Tryz.underlying79;have HB:=Za (Zw w.heap.size w);have H:=h;clear h;unfold bqz.f at H;obtain ⟨t373,A2,H⟩:=ob_ H
 (try dsimp only at H)
 by_cases c3:t373=true
 rotate_left
 ·replace c3:=Zr c3;subst c3;rw [Yb (show¬(false=true) by decide)] at H;simp only [Zx,Zy] at H;obtain ⟨rfl,rfl⟩:=H;go_enter Tryz.func51,Tryz.ntmps51
  go_wp2_with (first|((with_reducible refine blz (N:=1) rfl ?_);refine bx_ 1 #[.int .i64 a0_0, .int .i64 a0_1, .int .i64 a0_2] 23 ?_;intro gb372 hg w69 hbox hb;have n_:=Zb (hs_ HB hb) (Zb (Za (hbox)) (Zb (ag_ HB gb372) (ag_ HB gb372)));clear HB;obtain ⟨HB,BK372,GW372,GE372⟩:=n_;clear hb hbox hg;obtain ⟨_,_,_,_,_,_⟩:=bc3_ BK372.out)|((with_reducible refine abz (f:=48) rfl ?_);refine gl_ (some 9) Tryz.func48 #[.agg #[.int .i64 a0_0, .int .i64 a0_1, .int .i64 a0_2]] ?_;(with_reducible refine (biz.calls a0_0 a0_1 a0_2 false _ A2.out).mono ?_);rintro e w71 ⟨rfl,hb⟩;refine ⟨_,rfl,?_⟩;have n_:=Zb (bb_ BK372 hb) (hs_ HB hb);clear BK372 HB;obtain ⟨BK372,HB⟩:=n_;(try clear hb)))
  go_ret2;exact ⟨_,er_,(by first|exact Kd.V_nil _ _ _ _ _|exact Kd.N_V (Kd.N_nil _ _ _ _ _)),bl_⟩
 subst c3;rw [Ya rfl] at H;obtain ⟨⟨t374,t375,t376,t377,t378,t379⟩,A4,H⟩:=ob_ H
 (try dsimp only at H)
 by_cases c5:a0_0=1
 ·rw [Ya c5] at H;have c5b0:(a0_0==1)=true:=Ye c5;have c5b1:(a0_0 !=1)=false:=Yc c5;clear c5;obtain ⟨⟨t381,t384⟩,A6,H⟩:=ob_ H
  (try dsimp only at H)
  simp only [Zx,Zy] at H;obtain ⟨rfl,rfl⟩:=H;go_enter Tryz.func51,Tryz.ntmps51
  go_wp2_with (first|((with_reducible refine blz (N:=1) rfl ?_);refine bx_ 1 #[.int .i64 a0_0, .int .i64 a0_1, .int .i64 a0_2] 23 ?_;intro gb372 hg w7 hbox hb;have n_:=Zb (hs_ HB hb) (Zb (Za (hbox)) (Zb (ag_ HB gb372) (ag_ HB gb372)));clear HB;obtain ⟨HB,BK372,GW372,GE372⟩:=n_;clear hb hbox hg;obtain ⟨_,_,_,_,_,_⟩:=bc3_ BK372.out)|((with_reducible refine abz (f:=48) rfl ?_);refine gl_ (some 9) Tryz.func48 #[.agg #[.int .i64 a0_0, .int .i64 a0_1, .int .i64 a0_2]] ?_;(with_reducible refine (biz.calls a0_0 a0_1 a0_2 true _ A2.out).mono ?_);rintro e w9 ⟨rfl,hb⟩;refine ⟨_,rfl,?_⟩;have n_:=Zb (bb_ BK372 hb) (hs_ HB hb);clear BK372 HB;obtain ⟨BK372,HB⟩:=n_;(try clear hb);obtain ⟨_,_,_,_,_,_⟩:=bc3_ BK372.out)|((with_reducible refine abz (f:=50) rfl ?_);refine gl_ (some 14) Tryz.func50 #[.int .i64 a0_0] ?_;(with_reducible refine (a4z.calls a0_0 t374 t375 t376 t377 t378 t379 _ A4.out).mono ?_);rintro e w11 ⟨rfl,hb⟩;refine ⟨_,rfl,?_⟩;have n_:=Zb (bb_ BK372 hb) (hs_ HB hb);clear BK372 HB;obtain ⟨BK372,HB⟩:=n_;(try clear hb))|((with_reducible refine blz (N:=4) rfl ?_);refine cxz ?hg (N:=4) ?hd (cs:= #[.string (⟨#[]⟩:ByteArray), .int .i64 0, .int .u32 0, .int .u8 0, .int .i64 0]) (t:=79) ?hr ?_;(case hd=>rfl);(case hg=>rfl);(case hr=>first|(go_simp;done)|(go_simp;rfl));intro gb380 hg w12 hbox hb;have n_:=Zb (bb_ BK372 hb) (Zb (hs_ HB hb) (Zb (Za (hbox)) (Zb (ag_ HB gb380) (Zb (ag_ HB gb380) (Zb (n1_ BK372 gb380) (n2_ BK372 gb380))))));clear BK372 HB;obtain ⟨BK372,HB,BK380,GW380,GE380,NB372_380,NB380_372⟩:=n_;clear hb hbox hg;have hnb13:=NB380_372.out;have hnc13:=NB372_380.out;obtain ⟨_,_,_,_,_,_,_,_,_,_⟩:=bc5_ BK380.out;obtain ⟨_,_,_,_,_,_⟩:=bc3_ BK372.out)|((with_reducible refine abz (f:=83) rfl ?_);refine gl_ (some 29) Tryz.func83 #[.int .i64 t375, .int .u32 t376, .int .i64 a0_1, .int .i64 a0_2] ?_;(with_reducible refine (acz.calls k t375 t376 a0_1 a0_2 t381 t384 _ A6.out).mono ?_);rintro e w16 ⟨v382,rfl,ho0,hb⟩;refine ⟨_,rfl,?_⟩;have n_:=Zb (Za (Kd.cbz (Kd.cnz (ok':=fun k_=>(w.heap.size<=k_)/\k_≠gb372/\k_≠gb380) ho0 (fun k_ hk_=>⟨(Zt (aez bl_) hk_),(Kd.freshB (g:=gb372) (o:= .cells #[.int .i64 a0_0, .int .i64 a0_1, .int .i64 a0_2] 23 (0,0)) kb_ k_ hk_),(Kd.freshB (g:=gb380) (o:= .cells #[.string t374, .int .i64 t375, .int .u32 t376, .int .u8 t377, .int .i64 t378] 79 (0,0)) kb_ k_ hk_)⟩)) (aez bl_))) (Zb (Za (awz (g:=gb372) (o:= .cells #[.int .i64 a0_0, .int .i64 a0_1, .int .i64 a0_2] 23 (0,0)) kb_ hb)) (Zb (Za (awz (g:=gb380) (o:= .cells #[.string t374, .int .i64 t375, .int .u32 t376, .int .u8 t377, .int .i64 t378] 79 (0,0)) kb_ hb)) (hs_ HB hb)));clear BK372 BK380 HB;obtain ⟨HO383,BK372,BK380,HB⟩:=n_;clear hb ho0))
  go_ret2;exact ⟨_,er_,Kd.N_V (nm_ HO383),bl_⟩
 ·rw [Yb c5] at H;have c5b0:(a0_0==1)=false:=Zq c5;have c5b1:(a0_0 !=1)=true:=Yd c5;by_cases c17:a0_0=2
  ·rw [Ya c17] at H;have c17b0:(a0_0==2)=true:=Ye c17;have c17b1:(a0_0 !=2)=false:=Yc c17;clear c17;obtain ⟨⟨t385,t386⟩,A18,H⟩:=ob_ H
   (try dsimp only at H)
   simp only [Zx,Zy] at H;obtain ⟨rfl,rfl⟩:=H;go_enter Tryz.func51,Tryz.ntmps51
   go_wp2_with (first|((with_reducible refine blz (N:=1) rfl ?_);refine bx_ 1 #[.int .i64 a0_0, .int .i64 a0_1, .int .i64 a0_2] 23 ?_;intro gb372 hg w19 hbox hb;have n_:=Zb (hs_ HB hb) (Zb (Za (hbox)) (Zb (ag_ HB gb372) (ag_ HB gb372)));clear HB;obtain ⟨HB,BK372,GW372,GE372⟩:=n_;clear hb hbox hg;obtain ⟨_,_,_,_,_,_⟩:=bc3_ BK372.out)|((with_reducible refine abz (f:=48) rfl ?_);refine gl_ (some 9) Tryz.func48 #[.agg #[.int .i64 a0_0, .int .i64 a0_1, .int .i64 a0_2]] ?_;(with_reducible refine (biz.calls a0_0 a0_1 a0_2 true _ A2.out).mono ?_);rintro e w21 ⟨rfl,hb⟩;refine ⟨_,rfl,?_⟩;have n_:=Zb (bb_ BK372 hb) (hs_ HB hb);clear BK372 HB;obtain ⟨BK372,HB⟩:=n_;(try clear hb);obtain ⟨_,_,_,_,_,_⟩:=bc3_ BK372.out)|((with_reducible refine abz (f:=50) rfl ?_);refine gl_ (some 14) Tryz.func50 #[.int .i64 a0_0] ?_;(with_reducible refine (a4z.calls a0_0 t374 t375 t376 t377 t378 t379 _ A4.out).mono ?_);rintro e w23 ⟨rfl,hb⟩;refine ⟨_,rfl,?_⟩;have n_:=Zb (bb_ BK372 hb) (hs_ HB hb);clear BK372 HB;obtain ⟨BK372,HB⟩:=n_;(try clear hb))|((with_reducible refine blz (N:=4) rfl ?_);refine cxz ?hg (N:=4) ?hd (cs:= #[.string (⟨#[]⟩:ByteArray), .int .i64 0, .int .u32 0, .int .u8 0, .int .i64 0]) (t:=79) ?hr ?_;(case hd=>rfl);(case hg=>rfl);(case hr=>first|(go_simp;done)|(go_simp;rfl));intro gb380 hg w24 hbox hb;have n_:=Zb (bb_ BK372 hb) (Zb (hs_ HB hb) (Zb (Za (hbox)) (Zb (ag_ HB gb380) (Zb (ag_ HB gb380) (Zb (n1_ BK372 gb380) (n2_ BK372 gb380))))));clear BK372 HB;obtain ⟨BK372,HB,BK380,GW380,GE380,NB372_380,NB380_372⟩:=n_;clear hb hbox hg;have hnb25:=NB380_372.out;have hnc25:=NB372_380.out;obtain ⟨_,_,_,_,_,_,_,_,_,_⟩:=bc5_ BK380.out;obtain ⟨_,_,_,_,_,_⟩:=bc3_ BK372.out)|((with_reducible refine abz (f:=84) rfl ?_);refine gl_ (some 42) Tryz.func84 #[.int .i64 t375, .int .u32 t376, .int .i64 a0_1, .int .i64 a0_2] ?_;(with_reducible refine (bbz.calls k t375 t376 a0_1 a0_2 t385 t386 _ A18.out).mono ?_);rintro e w28 ⟨v387,rfl,ho0,hb⟩;refine ⟨_,rfl,?_⟩;have n_:=Zb (Za (Kd.cbz (Kd.cnz (ok':=fun k_=>(w.heap.size<=k_)/\k_≠gb372/\k_≠gb380) (Kd.S_N (Kd.bFz ho0)) (fun k_ hk_=>⟨(Zt (aez bl_) hk_.2.1),(Kd.freshB (g:=gb372) (o:= .cells #[.int .i64 a0_0, .int .i64 a0_1, .int .i64 a0_2] 23 (0,0)) kb_ k_ hk_.2.1),(Kd.freshB (g:=gb380) (o:= .cells #[.string t374, .int .i64 t375, .int .u32 t376, .int .u8 t377, .int .i64 t378] 79 (0,0)) kb_ k_ hk_.2.1)⟩)) (aez bl_))) (Zb (Za (awz (g:=gb372) (o:= .cells #[.int .i64 a0_0, .int .i64 a0_1, .int .i64 a0_2] 23 (0,0)) kb_ hb)) (Zb (Za (awz (g:=gb380) (o:= .cells #[.string t374, .int .i64 t375, .int .u32 t376, .int .u8 t377, .int .i64 t378] 79 (0,0)) kb_ hb)) (hs_ HB hb)));clear BK372 BK380 HB;obtain ⟨HO388,BK372,BK380,HB⟩:=n_;clear hb ho0))
   go_ret2;exact ⟨_,er_,Kd.N_V (nm_ HO388),bl_⟩
  ·rw [Yb c17] at H;have c17b0:(a0_0==2)=false:=Zq c17;have c17b1:(a0_0 !=2)=true:=Yd c17;by_cases c29:a0_0=3
   ·rw [Ya c29] at H;have c29b0:(a0_0==3)=true:=Ye c29;have c29b1:(a0_0 !=3)=false:=Yc c29;clear c29;obtain ⟨⟨t389,t390⟩,A30,H⟩:=ob_ H
    (try dsimp only at H)
    simp only [Zx,Zy] at H;obtain ⟨rfl,rfl⟩:=H;go_enter Tryz.func51,Tryz.ntmps51
    go_wp2_with (first|((with_reducible refine blz (N:=1) rfl ?_);refine bx_ 1 #[.int .i64 a0_0, .int .i64 a0_1, .int .i64 a0_2] 23 ?_;intro gb372 hg w31 hbox hb;have n_:=Zb (hs_ HB hb) (Zb (Za (hbox)) (Zb (ag_ HB gb372) (ag_ HB gb372)));clear HB;obtain ⟨HB,BK372,GW372,GE372⟩:=n_;clear hb hbox hg;obtain ⟨_,_,_,_,_,_⟩:=bc3_ BK372.out)|((with_reducible refine abz (f:=48) rfl ?_);refine gl_ (some 9) Tryz.func48 #[.agg #[.int .i64 a0_0, .int .i64 a0_1, .int .i64 a0_2]] ?_;(with_reducible refine (biz.calls a0_0 a0_1 a0_2 true _ A2.out).mono ?_);rintro e w33 ⟨rfl,hb⟩;refine ⟨_,rfl,?_⟩;have n_:=Zb (bb_ BK372 hb) (hs_ HB hb);clear BK372 HB;obtain ⟨BK372,HB⟩:=n_;(try clear hb);obtain ⟨_,_,_,_,_,_⟩:=bc3_ BK372.out)|((with_reducible refine abz (f:=50) rfl ?_);refine gl_ (some 14) Tryz.func50 #[.int .i64 a0_0] ?_;(with_reducible refine (a4z.calls a0_0 t374 t375 t376 t377 t378 t379 _ A4.out).mono ?_);rintro e w35 ⟨rfl,hb⟩;refine ⟨_,rfl,?_⟩;have n_:=Zb (bb_ BK372 hb) (hs_ HB hb);clear BK372 HB;obtain ⟨BK372,HB⟩:=n_;(try clear hb))|((with_reducible refine blz (N:=4) rfl ?_);refine cxz ?hg (N:=4) ?hd (cs:= #[.string (⟨#[]⟩:ByteArray), .int .i64 0, .int .u32 0, .int .u8 0, .int .i64 0]) (t:=79) ?hr ?_;(case hd=>rfl);(case hg=>rfl);(case hr=>first|(go_simp;done)|(go_simp;rfl));intro gb380 hg w36 hbox hb;have n_:=Zb (bb_ BK372 hb) (Zb (hs_ HB hb) (Zb (Za (hbox)) (Zb (ag_ HB gb380) (Zb (ag_ HB gb380) (Zb (n1_ BK372 gb380) (n2_ BK372 gb380))))));clear BK372 HB;obtain ⟨BK372,HB,BK380,GW380,GE380,NB372_380,NB380_372⟩:=n_;clear hb hbox hg;have hnb37:=NB380_372.out;have hnc37:=NB372_380.out;obtain ⟨_,_,_,_,_,_,_,_,_,_⟩:=bc5_ BK380.out;obtain ⟨_,_,_,_,_,_⟩:=bc3_ BK372.out)|((with_reducible refine abz (f:=85) rfl ?_);refine gl_ (some 55) Tryz.func85 #[.int .i64 t375, .int .u32 t376, .int .i64 a0_1, .int .i64 a0_2] ?_;(with_reducible refine (apz.calls k t375 t376 a0_1 a0_2 t389 t390 _ A30.out).mono ?_);rintro e w40 ⟨v391,rfl,ho0,hb⟩;refine ⟨_,rfl,?_⟩;have n_:=Zb (Za (Kd.cbz (Kd.cnz (ok':=fun k_=>(w.heap.size<=k_)/\k_≠gb372/\k_≠gb380) (Kd.S_N (Kd.bFz ho0)) (fun k_ hk_=>⟨(Zt (aez bl_) hk_.2.1),(Kd.freshB (g:=gb372) (o:= .cells #[.int .i64 a0_0, .int .i64 a0_1, .int .i64 a0_2] 23 (0,0)) kb_ k_ hk_.2.1),(Kd.freshB (g:=gb380) (o:= .cells #[.string t374, .int .i64 t375, .int .u32 t376, .int .u8 t377, .int .i64 t378] 79 (0,0)) kb_ k_ hk_.2.1)⟩)) (aez bl_))) (Zb (Za (awz (g:=gb372) (o:= .cells #[.int .i64 a0_0, .int .i64 a0_1, .int .i64 a0_2] 23 (0,0)) kb_ hb)) (Zb (Za (awz (g:=gb380) (o:= .cells #[.string t374, .int .i64 t375, .int .u32 t376, .int .u8 t377, .int .i64 t378] 79 (0,0)) kb_ hb)) (hs_ HB hb)));clear BK372 BK380 HB;obtain ⟨HO392,BK372,BK380,HB⟩:=n_;clear hb ho0))
    go_ret2;exact ⟨_,er_,Kd.N_V (nm_ HO392),bl_⟩
   ·rw [Yb c29] at H;have c29b0:(a0_0==3)=false:=Zq c29;have c29b1:(a0_0 !=3)=true:=Yd c29;by_cases c41:a0_0=4
    ·rw [Ya c41] at H;have c41b0:(a0_0==4)=true:=Ye c41;have c41b1:(a0_0 !=4)=false:=Yc c41;clear c41;obtain ⟨⟨t393,t394⟩,A42,H⟩:=ob_ H
     (try dsimp only at H)
     simp only [Zx,Zy] at H;obtain ⟨rfl,rfl⟩:=H;go_enter Tryz.func51,Tryz.ntmps51
     go_wp2_with (first|((with_reducible refine blz (N:=1) rfl ?_);refine bx_ 1 #[.int .i64 a0_0, .int .i64 a0_1, .int .i64 a0_2] 23 ?_;intro gb372 hg w43 hbox hb;have n_:=Zb (hs_ HB hb) (Zb (Za (hbox)) (Zb (ag_ HB gb372) (ag_ HB gb372)));clear HB;obtain ⟨HB,BK372,GW372,GE372⟩:=n_;clear hb hbox hg;obtain ⟨_,_,_,_,_,_⟩:=bc3_ BK372.out)|((with_reducible refine abz (f:=48) rfl ?_);refine gl_ (some 9) Tryz.func48 #[.agg #[.int .i64 a0_0, .int .i64 a0_1, .int .i64 a0_2]] ?_;(with_reducible refine (biz.calls a0_0 a0_1 a0_2 true _ A2.out).mono ?_);rintro e w45 ⟨rfl,hb⟩;refine ⟨_,rfl,?_⟩;have n_:=Zb (bb_ BK372 hb) (hs_ HB hb);clear BK372 HB;obtain ⟨BK372,HB⟩:=n_;(try clear hb);obtain ⟨_,_,_,_,_,_⟩:=bc3_ BK372.out)|((with_reducible refine abz (f:=50) rfl ?_);refine gl_ (some 14) Tryz.func50 #[.int .i64 a0_0] ?_;(with_reducible refine (a4z.calls a0_0 t374 t375 t376 t377 t378 t379 _ A4.out).mono ?_);rintro e w47 ⟨rfl,hb⟩;refine ⟨_,rfl,?_⟩;have n_:=Zb (bb_ BK372 hb) (hs_ HB hb);clear BK372 HB;obtain ⟨BK372,HB⟩:=n_;(try clear hb))|((with_reducible refine blz (N:=4) rfl ?_);refine cxz ?hg (N:=4) ?hd (cs:= #[.string (⟨#[]⟩:ByteArray), .int .i64 0, .int .u32 0, .int .u8 0, .int .i64 0]) (t:=79) ?hr ?_;(case hd=>rfl);(case hg=>rfl);(case hr=>first|(go_simp;done)|(go_simp;rfl));intro gb380 hg w48 hbox hb;have n_:=Zb (bb_ BK372 hb) (Zb (hs_ HB hb) (Zb (Za (hbox)) (Zb (ag_ HB gb380) (Zb (ag_ HB gb380) (Zb (n1_ BK372 gb380) (n2_ BK372 gb380))))));clear BK372 HB;obtain ⟨BK372,HB,BK380,GW380,GE380,NB372_380,NB380_372⟩:=n_;clear hb hbox hg;have hnb49:=NB380_372.out;have hnc49:=NB372_380.out;obtain ⟨_,_,_,_,_,_,_,_,_,_⟩:=bc5_ BK380.out;obtain ⟨_,_,_,_,_,_⟩:=bc3_ BK372.out)|((with_reducible refine abz (f:=86) rfl ?_);refine gl_ (some 68) Tryz.func86 #[.int .i64 t375, .int .u32 t376, .int .i64 a0_1, .int .i64 a0_2] ?_;(with_reducible refine (bcz.calls k t375 t376 a0_1 a0_2 t393 t394 _ A42.out).mono ?_);rintro e w52 ⟨v395,rfl,ho0,hb⟩;refine ⟨_,rfl,?_⟩;have n_:=Zb (Za (Kd.cbz (Kd.cnz (ok':=fun k_=>(w.heap.size<=k_)/\k_≠gb372/\k_≠gb380) (Kd.S_N (Kd.bFz ho0)) (fun k_ hk_=>⟨(Zt (aez bl_) hk_.2.1),(Kd.freshB (g:=gb372) (o:= .cells #[.int .i64 a0_0, .int .i64 a0_1, .int .i64 a0_2] 23 (0,0)) kb_ k_ hk_.2.1),(Kd.freshB (g:=gb380) (o:= .cells #[.string t374, .int .i64 t375, .int .u32 t376, .int .u8 t377, .int .i64 t378] 79 (0,0)) kb_ k_ hk_.2.1)⟩)) (aez bl_))) (Zb (Za (awz (g:=gb372) (o:= .cells #[.int .i64 a0_0, .int .i64 a0_1, .int .i64 a0_2] 23 (0,0)) kb_ hb)) (Zb (Za (awz (g:=gb380) (o:= .cells #[.string t374, .int .i64 t375, .int .u32 t376, .int .u8 t377, .int .i64 t378] 79 (0,0)) kb_ hb)) (hs_ HB hb)));clear BK372 BK380 HB;obtain ⟨HO396,BK372,BK380,HB⟩:=n_;clear hb ho0))
     go_ret2;exact ⟨_,er_,Kd.N_V (nm_ HO396),bl_⟩
    ·rw [Yb c41] at H;have c41b0:(a0_0==4)=false:=Zq c41;have c41b1:(a0_0 !=4)=true:=Yd c41;obtain ⟨⟨t397,t400⟩,A53,H⟩:=ob_ H
     (try dsimp only at H)
     by_cases c54:0<=a0_1
     rotate_left
     ·rw [Yb c54] at H;exact Yf H (by simp)
     rw [Ya c54] at H;have c54b0:=Zz c54;have c54b1:=Zd c54;clear c54;by_cases c55:a0_1<=(t397.length:Int)
     rotate_left
     ·rw [Yb c55] at H;exact Yf H (by simp)
     rw [Ya c55] at H;have c55b0:=Zz c55;have c55b1:=Zd c55;clear c55;obtain ⟨y401,hy401⟩: ∃y_:List (List Int),y_=(t397.drop (a0_1:Int).toNat):=⟨_,rfl⟩
     first|rw [Zl, <-hy401] at H|rw [<-hy401] at H
     (try dsimp only at H)
     have Ny401:=Za hy401;clear hy401;simp only [Zx,Zy] at H;obtain ⟨rfl,rfl⟩:=H;go_enter Tryz.func51,Tryz.ntmps51
     go_wp2_with (first|((with_reducible refine blz (N:=1) rfl ?_);refine bx_ 1 #[.int .i64 a0_0, .int .i64 a0_1, .int .i64 a0_2] 23 ?_;intro gb372 hg w56 hbox hb;have n_:=Zb (hs_ HB hb) (Zb (Za (hbox)) (Zb (ag_ HB gb372) (ag_ HB gb372)));clear HB;obtain ⟨HB,BK372,GW372,GE372⟩:=n_;clear hb hbox hg;obtain ⟨_,_,_,_,_,_⟩:=bc3_ BK372.out)|((with_reducible refine abz (f:=48) rfl ?_);refine gl_ (some 9) Tryz.func48 #[.agg #[.int .i64 a0_0, .int .i64 a0_1, .int .i64 a0_2]] ?_;(with_reducible refine (biz.calls a0_0 a0_1 a0_2 true _ A2.out).mono ?_);rintro e w58 ⟨rfl,hb⟩;refine ⟨_,rfl,?_⟩;have n_:=Zb (bb_ BK372 hb) (hs_ HB hb);clear BK372 HB;obtain ⟨BK372,HB⟩:=n_;(try clear hb);obtain ⟨_,_,_,_,_,_⟩:=bc3_ BK372.out)|((with_reducible refine abz (f:=50) rfl ?_);refine gl_ (some 14) Tryz.func50 #[.int .i64 a0_0] ?_;(with_reducible refine (a4z.calls a0_0 t374 t375 t376 t377 t378 t379 _ A4.out).mono ?_);rintro e w60 ⟨rfl,hb⟩;refine ⟨_,rfl,?_⟩;have n_:=Zb (bb_ BK372 hb) (hs_ HB hb);clear BK372 HB;obtain ⟨BK372,HB⟩:=n_;(try clear hb))|((with_reducible refine blz (N:=4) rfl ?_);refine cxz ?hg (N:=4) ?hd (cs:= #[.string (⟨#[]⟩:ByteArray), .int .i64 0, .int .u32 0, .int .u8 0, .int .i64 0]) (t:=79) ?hr ?_;(case hd=>rfl);(case hg=>rfl);(case hr=>first|(go_simp;done)|(go_simp;rfl));intro gb380 hg w61 hbox hb;have n_:=Zb (bb_ BK372 hb) (Zb (hs_ HB hb) (Zb (Za (hbox)) (Zb (ag_ HB gb380) (Zb (ag_ HB gb380) (Zb (n1_ BK372 gb380) (n2_ BK372 gb380))))));clear BK372 HB;obtain ⟨BK372,HB,BK380,GW380,GE380,NB372_380,NB380_372⟩:=n_;clear hb hbox hg;have hnb62:=NB380_372.out;have hnc62:=NB372_380.out;obtain ⟨_,_,_,_,_,_,_,_,_,_⟩:=bc5_ BK380.out;obtain ⟨_,_,_,_,_,_⟩:=bc3_ BK372.out)|((with_reducible refine abz (f:=87) rfl ?_);refine gl_ (some 80) Tryz.func87 #[.int .i64 t375, .int .u32 t376, .int .i64 a0_1, .int .i64 a0_2] ?_;(with_reducible refine (a1z.calls k t375 t376 a0_1 a0_2 t397 t400 _ A53.out).mono ?_);rintro e w65 ⟨v398,rfl,ho0,hb⟩;refine ⟨_,rfl,?_⟩;have n_:=Zb (Za (Kd.cbz (Kd.cnz (ok':=fun k_=>(w.heap.size<=k_)/\k_≠gb372/\k_≠gb380) ho0 (fun k_ hk_=>⟨(Zt (aez bl_) hk_),(Kd.freshB (g:=gb372) (o:= .cells #[.int .i64 a0_0, .int .i64 a0_1, .int .i64 a0_2] 23 (0,0)) kb_ k_ hk_),(Kd.freshB (g:=gb380) (o:= .cells #[.string t374, .int .i64 t375, .int .u32 t376, .int .u8 t377, .int .i64 t378] 79 (0,0)) kb_ k_ hk_)⟩)) (aez bl_))) (Zb (Za (awz (g:=gb372) (o:= .cells #[.int .i64 a0_0, .int .i64 a0_1, .int .i64 a0_2] 23 (0,0)) kb_ hb)) (Zb (Za (awz (g:=gb380) (o:= .cells #[.string t374, .int .i64 t375, .int .u32 t376, .int .u8 t377, .int .i64 t378] 79 (0,0)) kb_ hb)) (hs_ HB hb)));clear BK372 BK380 HB;obtain ⟨HO399,BK372,BK380,HB⟩:=n_;clear hb ho0;obtain ⟨_,_,_,_,_,_⟩:=bc3_ BK372.out;obtain ⟨Ao68,co68,eo68⟩:=Kd.cRz HO399.out;subst eo68;have q67:(a0_1:Int)<=((t397.length:Int):Int):=Zc as_;obtain ⟨i067,hi067,_,hsz67,_⟩:=info_parts info57;have hroom67:t397.length<=co68:=(Kd.bnz HO399.out).2.1;have hC67:Kd.F (Kd.slice 3 (Kd.int .i64)) _ _ Ao68 t397.length t397:=(Kd.V_at (base:=w.heap.size) (Kd.N_V HO399.out)).2.2;have q067:(0:Int)<=(a0_1:Int):=Zc as_;have hcut67:=cut_from (P:=Tryz.prog) 68 57 .i64 Tryz.underlying68 hi067 1 hsz67 Ao68 t397.length co68 a0_1 q067 q67;have hr67:=Kd.F_cut (m:=(a0_1:Int).toNat) (c:=co68) hC67 (by omega) hroom67;obtain ⟨A67,hA67⟩: ∃Aq_,Aq_=(if co68=(a0_1:Int).toNat then Ao68 else (Ao68:Option Addr).map (·.add ((a0_1:Int).toNat*1))):=⟨_,rfl⟩;obtain ⟨c67,hc67⟩: ∃cq_,cq_=co68 - (a0_1:Int).toNat:=⟨_,rfl⟩;have hy67:y401.length=t397.length - (a0_1:Int).toNat:=(by rw [Ny401.out,List.length_drop] <;>omega);rw [show (t397).drop (a0_1:Int).toNat=y401 from Ny401.out.symm] at hr67;replace hr67:Kd.F (Kd.slice 3 (Kd.int .i64)) _ _ A67 y401.length y401:=(by rw [hA67];exact hr67);rw [<-hy67, <-hA67, <-hc67] at hcut67;have HO405:=Za (show Kd.V (Kd.slice 3 (Kd.int .i64)) 57 _ w.heap.size _ (.slice A67 y401.length c67) y401 from Kd.V_mk (by rw [hy67,hc67];exact Nat.sub_le_sub_right hroom67 _) hr67);have HC405:=Za (show y401.length<=c67 from by rw [hy67,hc67];exact Nat.sub_le_sub_right hroom67 _);clear hr67 hC67 hroom67 hi067 hsz67 hc67;have KY67:=Za hy67;have KA67:=Za hA67;clear hy67 hA67;replace q67:=Zz q67))
     go_ret2;exact ⟨_,er_,vm_ HO405,bl_⟩
def aHz.l0:Nat->List Int->List Int->List Int->Int->Option (List Int×Bool)
 |0,_,_,_,_=>none
 |k+1,x0,x1,x6,x7=>if x7<(x0.length:Int) then (if 0<=x7 then (if x7<(x1.length:Int) then (if x6.length<140737488355328 then (aHz.l0 k x0 x1 (x6++ [Go.bits .xor .u8 (rd x0 x7) (rd x1 x7)]) (wrap64 (x7+1))) else (none)) else (none)) else (none)) else (some (x6,true))
def aHz.f (k:Nat) (l0:List Int) (l1:List Int):Option (List Int×Bool):=if (l0.length:Int)=(l1.length:Int) then (aHz.l0 k l0 l1 ([] :List Int) 0) else (some (([] :List Int),false))
def aHz.T7:Bool×List (List Nat×List Nat):=(true, [([], []),([], []),([], []),([1,2], [1,2]),([3], [3]),([], []),([], []),([5,6], [5,6]),([7], [7]),([4,8], [4,8]),([9], [9]),([0,10], [0,10]),([11,11,0,1,2,3,4,5,6,7,8,9,10,11], [0,11])])
def aHz.B7:List Nat:= [0,0,0,6,14,0,0,96,224,510,1022,2047,4095]
theorem aHz.tab7:rtab .any (opsOf Tryz.f70 7)=aHz.T7:=by kernel_rfl
theorem aHz.bits7:waitsOk aHz.T7.2 aHz.B7=true:=by kernel_rfl
theorem aHz.calls (k : Nat) (A0 : Option Addr) (c0 : Nat) (l0 : List Int) (A1 : Option Addr) (c1 : Nat) (l1 : List Int) (r1 : List Int) (r2 : Bool) (w : World) (hr0 : Kd.C (Kd.int .u8) w A0 l0.length l0) (hc0 : l0.length <= c0) (hr1 : Kd.C (Kd.int .u8) w A1 l1.length l1) (hc1 : l1.length <= c1) (h : aHz.f k l0 l1 = some (r1, r2)) :
  Calls Tryz.prog 70 #[.slice A0 l0.length c0, .slice A1 l1.length c1] w fun e w'=> ∃v0_:Value,e= .returned (.tuple #[v0_, .bool r2])/\Kd.R (Kd.int .u8) 5 w' w.heap.size (fun _=>True) v0_ r1/\Below w.heap.size w w':=by
 have HR0:=Za hr0;have HC0:=Za hc0;clear hr0 hc0;have HR1:=Za hr1;have HC1:=Za hc1;clear hr1 hc1;have HB:=Za (Zw w.heap.size w);have H:=h;clear h;unfold aHz.f at H;by_cases c3:(l0.length:Int)=(l1.length:Int)
 rotate_left
 ·rw [Yb c3] at H;have c3b0:((l0.length:Int)==(l1.length:Int))=false:=Zq c3;have c3b1:((l0.length:Int) !=(l1.length:Int))=true:=Yd c3
  have c3b2:(l0.length==l1.length)=false:=by first|simpa using c3|(simp at c3|-;omega)
  simp only [Zx,Zy] at H;obtain ⟨rfl,rfl⟩:=H;go_enter Tryz.func70,Tryz.ntmps70;go_wp2;go_ret2;exact ⟨_,er_,nl_,bl_⟩
 rw [Ya c3] at H;have c3b0:((l0.length:Int)==(l1.length:Int))=true:=Ye c3;have c3b1:((l0.length:Int) !=(l1.length:Int))=false:=Yc c3
 have c3b2:(l0.length==l1.length)=true:=by first|simpa using c3|(simp at c3|-;omega)
 clear c3;have H':=Za H;clear H;go_enter Tryz.func70,Tryz.ntmps70;go_wp2
 go_loopg [6,7] k (fun kq v6 v7 w'=> ∃(x6_1:List Int) (x7_1:Int),v7= .int .i64 x7_1/\Aside0 (aHz.l0 kq l0 l1 x6_1 x7_1=some (r1,r2))/\Aside0 (kq<=k)/\Aside0 (Kd.R (Kd.int .u8) 5 w' w.heap.size (fun _=>True) v6 x6_1)/\Aside0 (Below w.heap.size w w'))
 case atStart=>exact ⟨(([] :List Int)),(0),sd_,H',⟨Zv _⟩,⟨nl_⟩,⟨bl_⟩⟩
 clear H';clear c3b0 c3b1 c3b2;obtain ⟨x6_1,x7_1,rfl,HA,HK1,HO_6,HB⟩:=hrel;rcases gk with _|k1
 ·exact Yf HA.out (by simp [aHz.l0])
 have H:=HA.out;clear HA;simp only [aHz.l0] at H;by_cases c4:x7_1<(l0.length:Int)
 rotate_left
 ·rw [Yb c4] at H;have c4b0:=Ze c4;clear c4;simp only [Zx,Zy] at H;obtain ⟨rfl,rfl⟩:=H;go_wp2;go_ret2;exact ⟨_,er_,xd_ HO_6.out,bl_⟩
 rw [Ya c4] at H;have c4b0:=Zd c4;clear c4;by_cases c5:0<=x7_1
 rotate_left
 ·rw [Yb c5] at H;exact Yf H (by simp)
 rw [Ya c5] at H;have c5b0:=Zd c5;clear c5;by_cases c6:x7_1<(l1.length:Int)
 rotate_left
 ·rw [Yb c6] at H;exact Yf H (by simp)
 rw [Ya c6] at H;have c6b0:=Zd c6;clear c6;by_cases c7:x6_1.length<140737488355328
 rotate_left
 ·rw [Yb c7] at H;exact Yf H (by simp)
 rw [Ya c7] at H;have LMc7:=Za c7;clear c7;obtain ⟨y408,hy408⟩: ∃y_:List Int,y_=(x6_1++ [Go.bits .xor .u8 (rd l0 x7_1) (rd l1 x7_1)]):=⟨_,rfl⟩
 first|rw [Zl, <-hy408] at H|rw [<-hy408] at H
 (try dsimp only at H)
 have Ny408:=Za hy408;clear hy408;have H':=Za H;clear H
 try go_wp2
 have n_:=Zb (Za (Kd.c1z HO_6.out)) (Za (crz HB.out));clear HO_6 HB;obtain ⟨HO_6,HB⟩:=n_;have p406:0<=(x7_1:Int):=Zc as_;have q406:x7_1<(l0.length:Int):=Zc as_;obtain ⟨ad406,e406,hx406_0⟩:=Kd.bAz HR0.out x7_1 p406 q406;have hw406_0:=hx406_0;cases e406
 replace hx406_0:=(HB.out.cell (Zj w _ hx406_0)).trans hx406_0;replace p406:=Zz p406;replace q406:=Zz q406;have p407:0<=(x7_1:Int):=Zc as_;have q407:x7_1<(l1.length:Int):=Zc as_;obtain ⟨ad407,e407,hx407_0⟩:=Kd.bAz HR1.out x7_1 p407 q407;have hw407_0:=hx407_0;cases e407
 replace hx407_0:=(HB.out.cell (Zj w _ hx407_0)).trans hx407_0;replace p407:=Zz p407;replace q407:=Zz q407;refine clz (n:=13) (S:=fun w'=>w'.cell? (ad406.add (x7_1).toNat)=some (.int .u8 (rd l0 x7_1))/\w'.cell? (ad407.add (x7_1).toNat)=some (.int .u8 (rd l1 x7_1))) (ds:= []) (bA 13 0) kr_ rfl rfl ⟨((HB.out.cell (Zj w _ hw406_0)).trans hw406_0),((HB.out.cell (Zj w _ hw407_0)).trans hw407_0)⟩ (fun hHeld=> ?_);refine eez aHz.tab7 aHz.bits7 (fun HT_ HW_=> ?_);generalize wr.drew=w8 at HO_6 HB hx406_0 hx407_0 hHeld|-;refine pv_ 0 19 1 HT_ ?_;refine pv_ 1 20 3 HT_ ?_;refine pv_ 2 21 7 HT_ ?_;refine pv_ 3 22 15 HT_ ?_;refine pv_ 5 24 47 HT_ ?_;refine pv_ 6 25 111 HT_ ?_;refine pv_ 7 26 239 HT_ ?_;refine tw_ 4 23 255 HT_ HW_ hHeld ?_;refine tw_ 8 27 511 HT_ HW_ hHeld ?_;refine pv_ 9 28 1023 HT_ ?_;refine one_ (i:=10) (N:=some 29) (bA 13 2047) rfl rfl (dqz HT_.out kr_) (by decide) (fun K hK=> ?_);refine cez (w1:= ?_) (v:= ?_) (by rfl) rfl ?_ ?_
 rotate_left 2
 ·go_simp;constructor
  ·rfl
  ·rfl
 refine hK.out _ _ ⟨(World.cell?_alloc_lt _ _ _ (Zj _ _ (((HB.out.cell (Zj w _ hw406_0)).trans hw406_0)))).trans (((HB.out.cell (Zj w _ hw406_0)).trans hw406_0)),(World.cell?_alloc_lt _ _ _ (Zj _ _ (((HB.out.cell (Zj w _ hw407_0)).trans hw407_0)))).trans (((HB.out.cell (Zj w _ hw407_0)).trans hw407_0))⟩ (fun hHeld=> ?_);clear hK K;refine norm_ (a':= ?_) ?_ ?_;rotate_left
 ·show Act.put _ (some 29) _=_;simp only [Act.put,Zg,Zh,Zi,i64_w,i32_w];rfl
 refine one_ (i:=11) (N:=some 30) (bA 13 4095) rfl rfl (dqz HT_.out kr_) (by decide) (fun K hK=> ?_);refine Kd.dCz (Kd.int .u8) (w0:=w) w.heap.size (by rfl) (.tmp 19) (.tmp 29) 34 5 (.int .u8 0) 1 rfl Tryz.underlying34 info5 rfl (by decide) (by omega) u6 x6_1 (Go.bits .xor .u8 (rd l0 x7_1) (rd l1 x7_1)) [.int .u8 (Go.bits .xor .u8 (rd l0 x7_1) (rd l1 x7_1))] (fun _=>True) (fun _=>False) rfl rfl ?aP (fun _ hk=>hk.elim) ?aF ?aO ?aB ?aS ?aL ?_
 (case aP=>exact rfl)
 (case aB=>exact bl_)
 (case aF=>exact (fun _ _=>trivial))
 (case aO=>exact (xd_ HO_6.out))
 (case aS=>exact (aez bl_))
 (case aL=>have:=LMc7.out;omega)
 intro v409 w9 ho hb hg hat;rw [<-Ny408.out] at ho;have n_:=Zb (Za (hb)) (Za (ho));clear HB HO_6;obtain ⟨HB,HO410⟩:=n_;clear ho hb hg hat;refine hK.out _ _ ⟨((HB.out.cell (Zj w _ hw406_0)).trans hw406_0),((HB.out.cell (Zj w _ hw407_0)).trans hw407_0)⟩ (fun hHeld=> ?_);clear hK K;refine norm_ (a':= ?_) ?_ ?_;rotate_left
 ·show Act.put _ (some 30) _=_;simp only [Act.put,Zg,Zh,Zi,i64_w,i32_w];rfl
 refine pv_ 12 6 8191 HT_ ?_;refine done_ (done_of HT_.out kr_) ?_
 try go_wp2
 go_roundg k1
 case measure=>have:=HK1.out;omega
 case rel=>exact ⟨(y408),(wrap64 (x7_1+1)),sd_,H',⟨by have:=HK1.out;omega⟩,⟨xd_ HO410.out⟩,⟨bl_⟩⟩
end Go.Proofs.Xc
end
