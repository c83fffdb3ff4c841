-- Joined texts of this work (wip/tools/bundle.py).
import Derived.Test.YtpdakdcmahlghaaGreatBTrialTells15
set_option maxHeartbeats 8000000
set_option maxRecDepth 100000
set_option linter.unusedVariables false
set_option linter.unusedSimpArgs false
section
namespace Go.Proofs.Xc
open Go.RowKit Go.Proofs.Pw Go.Proofs.Pl Go.Proofs.Pm
attribute [local go_sem] bcz bdz bpz bqz a4z a5z bez bfz
def aDz.l0:Nat->Int->Int->List Int->Int->Option (List Int)
 |0,_,_,_,_=>none
 |k+1,x0,x1,x5,x6=>if x6<x1 then (if x5.length<17592186044416 then (aDz.l0 k x0 x1 (x5++ [wrap64 (x0+x6)]) (wrap64 (x6+1))) else (none)) else (some x5)
def aDz.f (k:Nat) (a0:Int) (a1:Int):Option (List Int):=aDz.l0 k a0 a1 ([] :List Int) 0
theorem aDz.aXz: ∀k,(∀y0 y1 y2 y3,LeO (aDz.l0 k y0 y1 y2 y3) (aDz.l0 (k+1) y0 y1 y2 y3))
 |0=>fun _ _ _ _ r h=>by simp [aDz.l0] at h
 |k+1=>by
  have ih0:=aDz.aXz k
  ·intro y0 y1 y2 y3;unfold aDz.l0
   repeat' with_reducible first|apply ih0|apply Yg|apply Yh|apply Yi|refine Yj ?_ fun _=>?_
theorem aDz.mono: ∀a0 a1 k,LeO (aDz.f k a0 a1) (aDz.f (k+1) a0 a1):=by
 intro a0 a1 k;have ih0:=aDz.aXz k;unfold aDz.f
 repeat' with_reducible first|apply ih0|apply Yg|apply Yh|apply Yi|refine Yj ?_ fun _=>?_
theorem aDz.calls (k : Nat) (a0 : Int) (a1 : Int) (r : List Int) (w : World) (h : aDz.f k a0 a1 = some r) :
  Calls Tryz.prog 131 #[.int .i64 a0, .int .i64 a1] w fun e w'=> ∃v0_:Value,e= .returned (v0_)/\Kd.R (Kd.int .i64) 3 w' w.heap.size (fun _=>True) v0_ r/\Below w.heap.size w w':=by
 have HB:=Za (Zw w.heap.size w);have H:=h;clear h;unfold aDz.f at H;have H':=Za H;clear H;go_enter Tryz.func131,Tryz.ntmps131;go_wp2
 go_loopg [5,6] k (fun kq v5 v6 w'=> ∃(x5_1:List Int) (x6_1:Int),v6= .int .i64 x6_1/\Aside0 (aDz.l0 kq a0 a1 x5_1 x6_1=some r)/\Aside0 (kq<=k)/\Aside0 (Kd.R (Kd.int .i64) 3 w' w.heap.size (fun _=>True) v5 x5_1)/\Aside0 (Below w.heap.size w w'))
 case atStart=>exact ⟨(([] :List Int)),(0),sd_,H',⟨Zv _⟩,⟨nl_⟩,⟨bl_⟩⟩
 clear H';obtain ⟨x5_1,x6_1,rfl,HA,HK1,HO_5,HB⟩:=hrel;rcases gk with _|k1
 ·exact Yf HA.out (by simp [aDz.l0])
 have H:=HA.out;clear HA;simp only [aDz.l0] at H;by_cases c3:x6_1<a1
 rotate_left
 ·rw [Yb c3] at H;have c3b0:=Ze c3;clear c3;obtain rfl:=Zn H;go_wp2;go_ret;exact ⟨_,er_,xd_ HO_5.out,bl_⟩
 rw [Ya c3] at H;have c3b0:=Zd c3;clear c3;by_cases c4:x5_1.length<17592186044416
 rotate_left
 ·rw [Yb c4] at H;exact Yf H (by simp)
 rw [Ya c4] at H;have LMc4:=Za c4;clear c4;obtain ⟨y615,hy615⟩: ∃y_:List Int,y_=(x5_1++ [wrap64 (a0+x6_1)]):=⟨_,rfl⟩
 first|rw [Zl, <-hy615] at H|rw [<-hy615] at H
 (try dsimp only at H)
 have Ny615:=Za hy615;clear hy615;have H':=Za H;clear H
 go_wp2_with (first|((with_reducible refine aoz (b:= .append) (xs:= #[.tmp 12, .tmp 16]) rfl ?_);at_builtin;refine Kd.bmz (Kd.int .i64) (w0:=w) w.heap.size rfl (.tmp 12) (.tmp 16) 57 3 (.int .i64 0) 8 rfl Tryz.underlying57 info3 rfl (by decide) (by omega) u5 x5_1 (wrap64 (a0+x6_1)) [.int .i64 (wrap64 (a0+x6_1))] (fun _=>True) (fun _=>False) rfl rfl ?aP (fun _ hk=>hk.elim) ?aF ?aO ?aB ?aS ?aL ?_;(case aP=>exact rfl);(case aB=>exact bl_);(case aF=>exact (fun _ _=>trivial));(case aO=>exact (xd_ HO_5.out));(case aS=>exact (adz bl_));(case aL=>have:=LMc4.out;omega);intro v616 w5 ho hb hg hat;rw [<-Ny615.out] at ho;have n_:=Zb (Za (hb)) (Za (ho));clear HB HO_5;obtain ⟨HB,HO617⟩:=n_;clear ho hb hg hat))
 go_roundg k1
 case measure=>have:=HK1.out;omega
 case rel=>exact ⟨(y615),(wrap64 (x6_1+1)),sd_,H',⟨by have:=HK1.out;omega⟩,⟨xd_ HO617.out⟩,⟨bl_⟩⟩
def a9z.f (k:Nat) (a0:Int) (a1:Int) (a2:Int) (a3:Int):Option ((List (List Int))×Bool):=(bjz.f a2 a3).bind fun t618=>(if t618=true then ((aDz.f k 0 a3).bind fun t619=>((aDz.f k a3 a2).bind fun t622=>((ajz.f k a0 a1 t619 t622).bind fun bt625=>(some (bt625.1,bt625.2))))) else (some (([] :List (List Int)),false)))
theorem a9z.mono: ∀a0 a1 a2 a3 k,LeO (a9z.f k a0 a1 a2 a3) (a9z.f (k+1) a0 a1 a2 a3):=by
 intro a0 a1 a2 a3 k;unfold a9z.f
 repeat' with_reducible first|apply ajz.mono|apply aDz.mono|apply Yg|apply Yh|apply Yi|refine Yj ?_ fun _=>?_
theorem a9z.calls (k : Nat) (a0 : Int) (a1 : Int) (a2 : Int) (a3 : Int) (r1 : List (List Int)) (r2 : Bool) (w : World) (h : a9z.f k a0 a1 a2 a3 = some (r1, r2)) :
  Calls Tryz.prog 84 #[.int .i64 a0, .int .u32 a1, .int .i64 a2, .int .i64 a3] w fun e w'=> ∃v0_:Value,e= .returned (.tuple #[v0_, .bool r2])/\Kd.S (Kd.slice 3 (Kd.int .i64)) 57 w' w.heap.size (fun _=>True) v0_ r1/\Below w.heap.size w w':=by
 have HB:=Za (Zw w.heap.size w);have H:=h;clear h;unfold a9z.f at H;obtain ⟨t618,A5,H⟩:=ob_ H
 (try dsimp only at H)
 by_cases c6:t618=true
 rotate_left
 ·replace c6:=Zr c6;subst c6;rw [Yb (show¬(false=true) by decide)] at H;simp only [Zx,Zy] at H;obtain ⟨rfl,rfl⟩:=H;go_enter Tryz.func84,Tryz.ntmps84
  go_wp2_with (first|((with_reducible refine aaz (f:=129) rfl ?_);refine gl_ (some 12) Tryz.func129 #[.int .i64 a2, .int .i64 a3] ?_;(with_reducible refine (bjz.calls a2 a3 false _ A5.out).mono ?_);rintro e w' ⟨rfl,⟨nd,rfl⟩⟩;refine ⟨_,rfl,?_⟩))
  go_ret2;exact ⟨_,er_,nl_,bl_⟩
 subst c6;rw [Ya rfl] at H;obtain ⟨t619,A7,H⟩:=ob_ H
 (try dsimp only at H)
 obtain ⟨t622,A8,H⟩:=ob_ H
 (try dsimp only at H)
 obtain ⟨⟨t625,t626⟩,A9,H⟩:=ob_ H
 (try dsimp only at H)
 simp only [Zx,Zy] at H;obtain ⟨rfl,rfl⟩:=H;go_enter Tryz.func84,Tryz.ntmps84
 go_wp2_with (first|((with_reducible refine aaz (f:=129) rfl ?_);refine gl_ (some 12) Tryz.func129 #[.int .i64 a2, .int .i64 a3] ?_;(with_reducible refine (bjz.calls a2 a3 true _ A5.out).mono ?_);rintro e w' ⟨rfl,⟨nd,rfl⟩⟩;refine ⟨_,rfl,?_⟩)|((with_reducible refine aaz (f:=131) rfl ?_);refine gl_ (some 17) Tryz.func131 #[.int .i64 0, .int .i64 a3] ?_;(with_reducible refine (aDz.calls k 0 a3 t619 _ A7.out).mono ?_);rintro e w10 ⟨v620,rfl,ho0,hb⟩;refine ⟨_,rfl,?_⟩;have n_:=Zb (Za (Kd.bAz ho0 (adz bl_))) (hs_ HB hb);clear HB;obtain ⟨HO621,HB⟩:=n_;clear hb ho0)|((with_reducible refine aaz (f:=131) rfl ?_);refine gl_ (some 20) Tryz.func131 #[.int .i64 a3, .int .i64 a2] ?_;(with_reducible refine (aDz.calls k a3 a2 t622 _ A8.out).mono ?_);rintro e w11 ⟨v623,rfl,ho0,hb⟩;refine ⟨_,rfl,?_⟩;have n_:=Zb (Za (Kd.dxz (xd_ HO621.out) (Kd.ciz ho0) hb)) (Zb (Za (Kd.bAz (Kd.R_new' ho0 (Kd.R_lt (xd_ HO621.out))) (adz bl_))) (hs_ HB hb));clear HO621 HB;obtain ⟨HO621,HO624,HB⟩:=n_;clear hb ho0;obtain ⟨Ao12,co12,eo12⟩:=Kd.a3z HO621.out;subst eo12;obtain ⟨Ao13,co13,eo13⟩:=Kd.a3z HO624.out;subst eo13)|((with_reducible refine aaz (f:=130) rfl ?_);refine gl_ (some 21) Tryz.func130 #[.int .i64 a0, .int .u32 a1, .slice Ao12 t619.length co12, .slice Ao13 t622.length co13] ?_;(with_reducible refine (ajz.calls k a0 a1 _ _ t619 _ _ t622 t625 t626 _ (xd_ (Kd.aPz HO621.out).2.2) ((Kd.aPz HO621.out).2.1) (xd_ (Kd.aPz HO624.out).2.2) ((Kd.aPz HO624.out).2.1) A9.out).mono ?_);rintro e w14 ⟨v627,rfl,ho0,hb⟩;refine ⟨_,rfl,?_⟩;have n_:=Zb (Za (Kd.bUz (xd_ HO621.out) hb)) (Zb (Za (Kd.bUz (xd_ HO624.out) hb)) (Zb (Za (Kd.cXz (Kd.S_new' (Kd.S_new' ho0 (Kd.R_lt (xd_ HO621.out))) (Kd.R_lt (xd_ HO624.out))) (adz bl_))) (hs_ HB hb)));clear HO621 HO624 HB;obtain ⟨HO621,HO624,HO628,HB⟩:=n_;clear hb ho0))
 go_ret2;exact ⟨_,er_,sm_ HO628,bl_⟩
def bBz.f (k:Nat) (a0:Int) (a1:Int) (a2:Int):Option (Int):=(awz.f k a0).bind fun t629=>(if (wrap64 (t629 - 1))=0 then (none) else (if (Int.tmod a2 (wrap64 (t629 - 1)))<0 then ((aOz.f k a0 a1 2 (wrap64 ((Int.tmod a2 (wrap64 (t629 - 1)))+(wrap64 (t629 - 1))))).bind fun t630=>(some t630)) else ((aOz.f k a0 a1 2 (Int.tmod a2 (wrap64 (t629 - 1)))).bind fun t631=>(some t631))))
theorem bBz.mono: ∀a0 a1 a2 k,LeO (bBz.f k a0 a1 a2) (bBz.f (k+1) a0 a1 a2):=by
 intro a0 a1 a2 k;unfold bBz.f
 repeat' with_reducible first|apply aOz.mono|apply awz.mono|apply Yg|apply Yh|apply Yi|refine Yj ?_ fun _=>?_
theorem bBz.calls (k : Nat) (a0 : Int) (a1 : Int) (a2 : Int) (r : Int) (w : World) (h : bBz.f k a0 a1 a2 = some r) :
  Calls Tryz.prog 132 #[.int .i64 a0, .int .u32 a1, .int .i64 a2] w fun e w'=>e= .returned (.int .i64 r)/\Drawn0 w w':=by
 have H:=h;clear h;unfold bBz.f at H;obtain ⟨t629,A4,H⟩:=ob_ H
 (try dsimp only at H)
 by_cases c5:(wrap64 (t629 - 1))=0
 ·rw [Ya c5] at H;exact Yf H (by simp)
 ·rw [Yb c5] at H;have c5b0:((wrap64 (t629 - 1))==0)=false:=Zq c5;have c5b1:((wrap64 (t629 - 1)) !=0)=true:=Yd c5;by_cases c6:(Int.tmod a2 (wrap64 (t629 - 1)))<0
  ·rw [Ya c6] at H;have c6b0:=Zd c6;clear c6;obtain ⟨t630,A7,H⟩:=ob_ H
   (try dsimp only at H)
   obtain rfl:=Zn H;go_enter Tryz.func132,Tryz.ntmps132
   go_wp2_with (first|((with_reducible refine aaz (f:=156) rfl ?_);refine gl_ (some 9) Tryz.func156 #[.int .i64 a0] ?_;(with_reducible refine (awz.calls k a0 t629 _ A4.out).mono ?_);rintro e w' ⟨rfl,⟨nd,rfl⟩⟩;refine ⟨_,rfl,?_⟩)|((with_reducible refine aaz (f:=168) rfl ?_);refine gl_ (some 22) Tryz.func168 #[.int .i64 a0, .int .u32 a1, .int .i64 2, .int .i64 (wrap64 ((Int.tmod a2 (wrap64 (t629 - 1)))+(wrap64 (t629 - 1))))] ?_;(with_reducible refine (aOz.calls k a0 a1 2 (wrap64 ((Int.tmod a2 (wrap64 (t629 - 1)))+(wrap64 (t629 - 1)))) t630 _ A7.out).mono ?_);rintro e w' ⟨rfl,⟨nd,rfl⟩⟩;refine ⟨_,rfl,?_⟩))
   go_ret;exact ⟨sd_,dn_⟩
  ·rw [Yb c6] at H;have c6b0:=Ze c6;clear c6;obtain ⟨t631,A8,H⟩:=ob_ H
   (try dsimp only at H)
   obtain rfl:=Zn H;go_enter Tryz.func132,Tryz.ntmps132
   go_wp2_with (first|((with_reducible refine aaz (f:=156) rfl ?_);refine gl_ (some 9) Tryz.func156 #[.int .i64 a0] ?_;(with_reducible refine (awz.calls k a0 t629 _ A4.out).mono ?_);rintro e w' ⟨rfl,⟨nd,rfl⟩⟩;refine ⟨_,rfl,?_⟩)|((with_reducible refine aaz (f:=168) rfl ?_);refine gl_ (some 22) Tryz.func168 #[.int .i64 a0, .int .u32 a1, .int .i64 2, .int .i64 (Int.tmod a2 (wrap64 (t629 - 1)))] ?_;(with_reducible refine (aOz.calls k a0 a1 2 (Int.tmod a2 (wrap64 (t629 - 1))) t631 _ A8.out).mono ?_);rintro e w' ⟨rfl,⟨nd,rfl⟩⟩;refine ⟨_,rfl,?_⟩))
   go_ret;exact ⟨sd_,dn_⟩
mutual
def arz.l0:Nat->Int->Int->Int->Int->List (List Int)->Int->Option ((List (List Int))×Bool)
 |0,_,_,_,_,_,_=>none
 |k+1,x0,x1,x2,x3,x10,x11=>if x11<x3 then (arz.l1 k x0 x1 x2 x3 x10 x11 ([] :List Int) 0) else (some (x10,true))
def arz.l1:Nat->Int->Int->Int->Int->List (List Int)->Int->List Int->Int->Option ((List (List Int))×Bool)
 |0,_,_,_,_,_,_,_,_=>none
 |k+1,x0,x1,x2,x3,x10,x11,x12,x13=>if x13<x2 then ((bBz.f k x0 x1 (wrap64 (x11*x13))).bind fun t633=>(if x12.length<17592186044416 then (arz.l1 k x0 x1 x2 x3 x10 x11 (x12++ [t633]) (wrap64 (x13+1))) else (none))) else (if x10.length<5864062014805 then (arz.l0 k x0 x1 x2 x3 (x10++ [x12]) (wrap64 (x11+1))) else (none))
end
def arz.f (k:Nat) (a0:Int) (a1:Int) (a2:Int) (a3:Int):Option ((List (List Int))×Bool):=(bjz.f a2 a3).bind fun t632=>(if t632=true then (arz.l0 k a0 a1 a2 a3 ([] :List (List Int)) 0) else (some (([] :List (List Int)),false)))
theorem arz.aXz: ∀k,(∀y0 y1 y2 y3 y4 y5,LeO (arz.l0 k y0 y1 y2 y3 y4 y5) (arz.l0 (k+1) y0 y1 y2 y3 y4 y5))/\(∀y0 y1 y2 y3 y4 y5 y6 y7,LeO (arz.l1 k y0 y1 y2 y3 y4 y5 y6 y7) (arz.l1 (k+1) y0 y1 y2 y3 y4 y5 y6 y7))
 |0=>⟨fun _ _ _ _ _ _ r h=>by simp [arz.l0] at h,fun _ _ _ _ _ _ _ _ r h=>by simp [arz.l1] at h⟩
 |k+1=>by
  obtain ⟨ih0,ih1⟩:=arz.aXz k;refine ⟨?_,?_⟩
  ·intro y0 y1 y2 y3 y4 y5;unfold arz.l0
   repeat' with_reducible first|apply ih0|apply ih1|apply bBz.mono|apply Yg|apply Yh|apply Yi|refine Yj ?_ fun _=>?_
  ·intro y0 y1 y2 y3 y4 y5 y6 y7;unfold arz.l1
   repeat' with_reducible first|apply ih0|apply ih1|apply bBz.mono|apply Yg|apply Yh|apply Yi|refine Yj ?_ fun _=>?_
theorem arz.mono: ∀a0 a1 a2 a3 k,LeO (arz.f k a0 a1 a2 a3) (arz.f (k+1) a0 a1 a2 a3):=by
 intro a0 a1 a2 a3 k;obtain ⟨ih0,ih1⟩:=arz.aXz k;unfold arz.f
 repeat' with_reducible first|apply ih0|apply ih1|apply bBz.mono|apply Yg|apply Yh|apply Yi|refine Yj ?_ fun _=>?_
theorem arz.calls (k : Nat) (a0 : Int) (a1 : Int) (a2 : Int) (a3 : Int) (r1 : List (List Int)) (r2 : Bool) (w : World) (h : arz.f k a0 a1 a2 a3 = some (r1, r2)) :
  Calls Tryz.prog 85 #[.int .i64 a0, .int .u32 a1, .int .i64 a2, .int .i64 a3] w fun e w'=> ∃v0_:Value,e= .returned (.tuple #[v0_, .bool r2])/\Kd.S (Kd.slice 3 (Kd.int .i64)) 57 w' w.heap.size (fun _=>True) v0_ r1/\Below w.heap.size w w':=by
 have HB:=Za (Zw w.heap.size w);have H:=h;clear h;unfold arz.f at H;obtain ⟨t632,A5,H⟩:=ob_ H
 (try dsimp only at H)
 by_cases c6:t632=true
 rotate_left
 ·replace c6:=Zr c6;subst c6;rw [Yb (show¬(false=true) by decide)] at H;simp only [Zx,Zy] at H;obtain ⟨rfl,rfl⟩:=H;go_enter Tryz.func85,Tryz.ntmps85
  go_wp2_with (first|((with_reducible refine aaz (f:=129) rfl ?_);refine gl_ (some 16) Tryz.func129 #[.int .i64 a2, .int .i64 a3] ?_;(with_reducible refine (bjz.calls a2 a3 false _ A5.out).mono ?_);rintro e w' ⟨rfl,⟨nd,rfl⟩⟩;refine ⟨_,rfl,?_⟩))
  go_ret2;exact ⟨_,er_,nl_,bl_⟩
 subst c6;rw [Ya rfl] at H;have H':=Za H;clear H;go_enter Tryz.func85,Tryz.ntmps85
 go_wp2_with (first|((with_reducible refine aaz (f:=129) rfl ?_);refine gl_ (some 16) Tryz.func129 #[.int .i64 a2, .int .i64 a3] ?_;(with_reducible refine (bjz.calls a2 a3 true _ A5.out).mono ?_);rintro e w' ⟨rfl,⟨nd,rfl⟩⟩;refine ⟨_,rfl,?_⟩))
 go_loopg [10,11] k (fun kq v10 v11 w'=> ∃(x10_1:List (List Int)) (x11_1:Int),v11= .int .i64 x11_1/\Aside0 (arz.l0 kq a0 a1 a2 a3 x10_1 x11_1=some (r1,r2))/\Aside0 (kq<=k)/\Aside0 (Kd.S (Kd.slice 3 (Kd.int .i64)) 57 w' w.heap.size (fun _=>True) v10 x10_1)/\Aside0 (Below w.heap.size w w'))
 case atStart=>exact ⟨(([] :List (List Int))),(0),sd_,H',⟨Zv _⟩,⟨nl_⟩,⟨bl_⟩⟩
 clear H';obtain ⟨x10_1,x11_1,rfl,HA,HK1,HO_10,HB⟩:=hrel;rcases gk with _|k1
 ·exact Yf HA.out (by simp [arz.l0])
 have H:=HA.out;clear HA;simp only [arz.l0] at H;by_cases c7:x11_1<a3
 rotate_left
 ·rw [Yb c7] at H;have c7b0:=Ze c7;clear c7;simp only [Zx,Zy] at H;obtain ⟨rfl,rfl⟩:=H;go_wp2;go_ret2;exact ⟨_,er_,xd_ HO_10.out,bl_⟩
 rw [Ya c7] at H;have c7b0:=Zd c7;clear c7;have H':=Za H;clear H;go_wp2
 go_loopg [12,13] k1 (fun kq v12 v13 w'=> ∃(x12_2:List Int) (x13_2:Int),v13= .int .i64 x13_2/\Aside0 (arz.l1 kq a0 a1 a2 a3 x10_1 x11_1 x12_2 x13_2=some (r1,r2))/\Aside0 (kq<=k1)/\Aside0 (Kd.S (Kd.slice 3 (Kd.int .i64)) 57 w' w.heap.size (fun k_=>some k_≠(v12:Value).ownBlock) u10 x10_1)/\Aside0 (Kd.R (Kd.int .i64) 3 w' w.heap.size (fun _=>True) v12 x12_2)/\Aside0 (Below w.heap.size w w'))
 case atStart=>exact ⟨(([] :List Int)),(0),sd_,H',⟨Zv _⟩,⟨sm_ HO_10⟩,⟨nl_⟩,⟨bl_⟩⟩
 clear H';clear c7b0;obtain ⟨x12_2,x13_2,rfl,HA,HK2,HO_10,HO_12,HB⟩:=hrel;rcases gk with _|k2
 ·exact Yf HA.out (by simp [arz.l1])
 have H:=HA.out;clear HA;simp only [arz.l1] at H;by_cases c8:x13_2<a2
 ·rw [Ya c8] at H;have c8b0:=Zd c8;clear c8;obtain ⟨t633,A9,H⟩:=ob_ H
  (try dsimp only at H)
  by_cases c10:x12_2.length<17592186044416
  rotate_left
  ·rw [Yb c10] at H;exact Yf H (by simp)
  rw [Ya c10] at H;have LMc10:=Za c10;clear c10;obtain ⟨y634,hy634⟩: ∃y_:List Int,y_=(x12_2++ [t633]):=⟨_,rfl⟩
  first|rw [Zl, <-hy634] at H|rw [<-hy634] at H
  (try dsimp only at H)
  have Ny634:=Za hy634;clear hy634;have H':=Za H;clear H
  go_wp2_with (first|((with_reducible refine aaz (f:=132) rfl ?_);refine gl_ (some 34) Tryz.func132 #[.int .i64 a0, .int .u32 a1, .int .i64 (wrap64 (x11_1*x13_2))] ?_;(with_reducible refine (bBz.calls k2 a0 a1 (wrap64 (x11_1*x13_2)) t633 _ A9.out).mono ?_);rintro e w' ⟨rfl,⟨nd,rfl⟩⟩;refine ⟨_,rfl,?_⟩)|((with_reducible refine aoz (b:= .append) (xs:= #[.tmp 28, .tmp 35]) rfl ?_);at_builtin;refine Kd.bmz (Kd.int .i64) (w0:=w) w.heap.size rfl (.tmp 28) (.tmp 35) 57 3 (.int .i64 0) 8 rfl Tryz.underlying57 info3 rfl (by decide) (by omega) u12 x12_2 t633 [.int .i64 t633] (fun _=>True) (fun _=>False) rfl rfl ?aP (fun _ hk=>hk.elim) ?aF ?aO ?aB ?aS ?aL ?_;(case aP=>exact rfl);(case aB=>exact bl_);(case aF=>exact (fun _ _=>trivial));(case aO=>exact (xd_ HO_12.out));(case aS=>exact (adz bl_));(case aL=>have:=LMc10.out;omega);intro v635 w11 ho hb hg hat;rw [<-Ny634.out] at ho;have n_:=Zb (Za (Kd.cSz (ok:=(fun _=>True)) (sm_ HO_10) hg hat)) (Zb (Za (hb)) (Za (ho)));clear HO_10 HB HO_12;obtain ⟨HO_10,HB,HO636⟩:=n_;clear ho hb hg hat))
  go_roundg k2
  case measure=>have:=HK1.out;have:=HK2.out;omega
  case rel=>exact ⟨(y634),(wrap64 (x13_2+1)),sd_,H',⟨by have:=HK1.out;have:=HK2.out;omega⟩,⟨sm_ HO_10⟩,⟨xd_ HO636.out⟩,⟨bl_⟩⟩
 ·rw [Yb c8] at H;have c8b0:=Ze c8;clear c8;by_cases c12:x10_1.length<5864062014805
  rotate_left
  ·rw [Yb c12] at H;exact Yf H (by simp)
  rw [Ya c12] at H;have LMc12:=Za c12;clear c12;obtain ⟨y637,hy637⟩: ∃y_:List (List Int),y_=(x10_1++ [x12_2]):=⟨_,rfl⟩
  first|rw [Zl, <-hy637] at H|rw [<-hy637] at H
  (try dsimp only at H)
  have Ny637:=Za hy637;clear hy637;have H':=Za H;clear H;obtain ⟨Ao14,co14,eo14⟩:=Kd.a3z HO_12.out;subst eo14
  go_wp2_with (first|((with_reducible refine aoz (b:= .append) (xs:= #[.tmp 37, .tmp 39]) rfl ?_);at_builtin;refine Kd.b2z (Kd.slice 3 (Kd.int .i64)) (w0:=w) w.heap.size rfl (.tmp 37) (.tmp 39) 68 57 (.slice none 0 0) 24 rfl Tryz.underlying68 info57 rfl (by decide) (by omega) u10 x10_1 x12_2 [.slice Ao14 x12_2.length co14] (fun _=>True) (fun k_=>some k_=(.slice Ao14 x12_2.length co14:Value).ownBlock) rfl rfl ?aP (fun k_ hk_=>((Kd.aSz (ok':=fun k_=>((fun _=>True)) k_/\some k_≠(u10:Value).ownBlock) (Kd.bxz (HO_12.out) (Kd.bQz HO_10.out) (by decide)) (fun k_ hk=>⟨trivial,hk.2⟩))).1 k_ hk_.symm) ?aF ?aO ?aB ?aS ?aL ?_;(case aP=>exact Kd.M_row (Kd.aSz (Kd.cgz rfl (Kd.aSz (ok':=fun k_=>((fun _=>True)) k_/\some k_≠(u10:Value).ownBlock) (Kd.bxz (HO_12.out) (Kd.bQz HO_10.out) (by decide)) (fun k_ hk=>⟨trivial,hk.2⟩))) (fun _ h_=>h_)));(case aB=>exact bl_);(case aF=>exact (fun _ _=>trivial));(case aO=>exact (sm_ HO_10));(case aS=>exact (adz bl_));(case aL=>have:=LMc12.out;omega);intro v638 w13 ho hb hg hat;rw [<-Ny637.out] at ho;have n_:=Zb (Za (hb)) (Za (ho));clear HB HO_10 HO_12;obtain ⟨HB,HO639⟩:=n_;clear ho hb hg hat))
  go_roundg k2
  case measure=>have:=HK1.out;have:=HK2.out;omega
  case rel=>exact ⟨(y637),(wrap64 (x11_1+1)),sd_,H',⟨by have:=HK1.out;have:=HK2.out;omega⟩,⟨xd_ HO639.out⟩,⟨bl_⟩⟩
def aRz.f (a0_0:Int) (a0_1:Int) (a0_2:Int):Option (Bool):=(aNz.f a0_0).bind fun bt443=>(if bt443.2.2.2.2.2=true then (if a0_1>=1 then (if a0_1<=8 then (if a0_2>=1 then (some (decide (a0_2<=bt443.2.2.2.2.1))) else (some false)) else (some false)) else (some false)) else (some false))
theorem aRz.calls (a0_0:Int) (a0_1:Int) (a0_2:Int) (r:Bool) (w:World) (h:aRz.f a0_0 a0_1 a0_2=some r):
 Calls Tryz.prog 48 #[.agg #[.int .i64 a0_0, .int .i64 a0_1, .int .i64 a0_2]] w fun e w'=>e= .returned (.bool r)/\Below w.heap.size w w':=by
 have hu23:=Tryz.underlying23;have hu79:=Tryz.underlying79;have HB:=Za (Zw w.heap.size w);have H:=h;clear h;unfold aRz.f at H;obtain ⟨⟨t443,t444,t445,t446,t447,t448⟩,A2,H⟩:=ob_ H
 (try dsimp only at H)
 have HH:=Za H;clear H;go_enter Tryz.func48,Tryz.ntmps48
 go_wp2_with (first|((with_reducible refine aMz (N:=1) rfl ?_);refine bx_ 1 #[.int .i64 a0_0, .int .i64 a0_1, .int .i64 a0_2] 23 ?_;intro gb442 hg w7 hbox hb;have n_:=Zb (hs_ HB hb) (Zb (Za (hbox)) (Zb (ag_ HB gb442) (ag_ HB gb442)));clear HB;obtain ⟨HB,BK442,GW442,GE442⟩:=n_;clear hb hbox hg;obtain ⟨_,_,_,_,_,_⟩:=bc3_ BK442.out)|((with_reducible refine aaz (f:=50) rfl ?_);refine gl_ (some 8) Tryz.func50 #[.int .i64 a0_0] ?_;(with_reducible refine (aNz.calls a0_0 t443 t444 t445 t446 t447 t448 _ A2.out).mono ?_);rintro e w9 ⟨rfl,hb⟩;refine ⟨_,rfl,?_⟩;have n_:=Zb (bb_ BK442 hb) (hs_ HB hb);clear BK442 HB;obtain ⟨BK442,HB⟩:=n_;(try clear hb))|((with_reducible refine aMz (N:=3) rfl ?_);refine b4z ?hg (N:=3) ?hd (cs:= #[.string (⟨#[]⟩:ByteArray), .int .i64 0, .int .u32 0, .int .u8 0, .int .i64 0]) (t:=79) ?hr ?_;(case hd=>rfl);(case hg=>rfl);(case hr=>first|(go_simp;done)|(go_simp;rfl));intro gb449 hg w10 hbox hb;have n_:=Zb (bb_ BK442 hb) (Zb (hs_ HB hb) (Zb (Za (hbox)) (Zb (ag_ HB gb449) (Zb (ag_ HB gb449) (Zb (n1_ BK442 gb449) (n2_ BK442 gb449))))));clear BK442 HB;obtain ⟨BK442,HB,BK449,GW449,GE449,NB442_449,NB449_442⟩:=n_;clear hb hbox hg;have hnb11:=NB449_442.out;have hnc11:=NB442_449.out;obtain ⟨_,_,_,_,_,_,_,_,_,_⟩:=bc5_ BK449.out;obtain ⟨_,_,_,_,_,_⟩:=bc3_ BK442.out))
 all_goals
  go_ret;refine ⟨congrArg (fun b=>Ending.returned (.bool b)) ?_,bl_⟩;have H:=HH.out
  simp_all
 all_goals (rw [Yb (by omega)] at H;simp_all)
def baz.f (k:Nat) (a0:Int) (a1:Int) (a2:Int) (a3:Int):Option ((List (List Int))×Bool):=(bjz.f a2 a3).bind fun t640=>(if t640=true then ((aDz.f k a2 a3).bind fun t641=>((aDz.f k 0 a2).bind fun t644=>((ajz.f k a0 a1 t641 t644).bind fun bt647=>(some (bt647.1,bt647.2))))) else (some (([] :List (List Int)),false)))
theorem baz.mono: ∀a0 a1 a2 a3 k,LeO (baz.f k a0 a1 a2 a3) (baz.f (k+1) a0 a1 a2 a3):=by
 intro a0 a1 a2 a3 k;unfold baz.f
 repeat' with_reducible first|apply ajz.mono|apply aDz.mono|apply Yg|apply Yh|apply Yi|refine Yj ?_ fun _=>?_
theorem baz.calls (k : Nat) (a0 : Int) (a1 : Int) (a2 : Int) (a3 : Int) (r1 : List (List Int)) (r2 : Bool) (w : World) (h : baz.f k a0 a1 a2 a3 = some (r1, r2)) :
  Calls Tryz.prog 86 #[.int .i64 a0, .int .u32 a1, .int .i64 a2, .int .i64 a3] w fun e w'=> ∃v0_:Value,e= .returned (.tuple #[v0_, .bool r2])/\Kd.S (Kd.slice 3 (Kd.int .i64)) 57 w' w.heap.size (fun _=>True) v0_ r1/\Below w.heap.size w w':=by
 have HB:=Za (Zw w.heap.size w);have H:=h;clear h;unfold baz.f at H;obtain ⟨t640,A5,H⟩:=ob_ H
 (try dsimp only at H)
 by_cases c6:t640=true
 rotate_left
 ·replace c6:=Zr c6;subst c6;rw [Yb (show¬(false=true) by decide)] at H;simp only [Zx,Zy] at H;obtain ⟨rfl,rfl⟩:=H;go_enter Tryz.func86,Tryz.ntmps86
  go_wp2_with (first|((with_reducible refine aaz (f:=129) rfl ?_);refine gl_ (some 12) Tryz.func129 #[.int .i64 a2, .int .i64 a3] ?_;(with_reducible refine (bjz.calls a2 a3 false _ A5.out).mono ?_);rintro e w' ⟨rfl,⟨nd,rfl⟩⟩;refine ⟨_,rfl,?_⟩))
  go_ret2;exact ⟨_,er_,nl_,bl_⟩
 subst c6;rw [Ya rfl] at H;obtain ⟨t641,A7,H⟩:=ob_ H
 (try dsimp only at H)
 obtain ⟨t644,A8,H⟩:=ob_ H
 (try dsimp only at H)
 obtain ⟨⟨t647,t648⟩,A9,H⟩:=ob_ H
 (try dsimp only at H)
 simp only [Zx,Zy] at H;obtain ⟨rfl,rfl⟩:=H;go_enter Tryz.func86,Tryz.ntmps86
 go_wp2_with (first|((with_reducible refine aaz (f:=129) rfl ?_);refine gl_ (some 12) Tryz.func129 #[.int .i64 a2, .int .i64 a3] ?_;(with_reducible refine (bjz.calls a2 a3 true _ A5.out).mono ?_);rintro e w' ⟨rfl,⟨nd,rfl⟩⟩;refine ⟨_,rfl,?_⟩)|((with_reducible refine aaz (f:=131) rfl ?_);refine gl_ (some 18) Tryz.func131 #[.int .i64 a2, .int .i64 a3] ?_;(with_reducible refine (aDz.calls k a2 a3 t641 _ A7.out).mono ?_);rintro e w10 ⟨v642,rfl,ho0,hb⟩;refine ⟨_,rfl,?_⟩;have n_:=Zb (Za (Kd.bAz ho0 (adz bl_))) (hs_ HB hb);clear HB;obtain ⟨HO643,HB⟩:=n_;clear hb ho0)|((with_reducible refine aaz (f:=131) rfl ?_);refine gl_ (some 20) Tryz.func131 #[.int .i64 0, .int .i64 a2] ?_;(with_reducible refine (aDz.calls k 0 a2 t644 _ A8.out).mono ?_);rintro e w11 ⟨v645,rfl,ho0,hb⟩;refine ⟨_,rfl,?_⟩;have n_:=Zb (Za (Kd.dxz (xd_ HO643.out) (Kd.ciz ho0) hb)) (Zb (Za (Kd.bAz (Kd.R_new' ho0 (Kd.R_lt (xd_ HO643.out))) (adz bl_))) (hs_ HB hb));clear HO643 HB;obtain ⟨HO643,HO646,HB⟩:=n_;clear hb ho0;obtain ⟨Ao12,co12,eo12⟩:=Kd.a3z HO643.out;subst eo12;obtain ⟨Ao13,co13,eo13⟩:=Kd.a3z HO646.out;subst eo13)|((with_reducible refine aaz (f:=130) rfl ?_);refine gl_ (some 21) Tryz.func130 #[.int .i64 a0, .int .u32 a1, .slice Ao12 t641.length co12, .slice Ao13 t644.length co13] ?_;(with_reducible refine (ajz.calls k a0 a1 _ _ t641 _ _ t644 t647 t648 _ (xd_ (Kd.aPz HO643.out).2.2) ((Kd.aPz HO643.out).2.1) (xd_ (Kd.aPz HO646.out).2.2) ((Kd.aPz HO646.out).2.1) A9.out).mono ?_);rintro e w14 ⟨v649,rfl,ho0,hb⟩;refine ⟨_,rfl,?_⟩;have n_:=Zb (Za (Kd.bUz (xd_ HO643.out) hb)) (Zb (Za (Kd.bUz (xd_ HO646.out) hb)) (Zb (Za (Kd.cXz (Kd.S_new' (Kd.S_new' ho0 (Kd.R_lt (xd_ HO643.out))) (Kd.R_lt (xd_ HO646.out))) (adz bl_))) (hs_ HB hb)));clear HO643 HO646 HB;obtain ⟨HO643,HO646,HO650,HB⟩:=n_;clear hb ho0))
 go_ret2;exact ⟨_,er_,sm_ HO650,bl_⟩
def a2z.f (k:Nat) (a0:Int) (a1:Int) (a2:Int) (a3:Int):Option ((List (List Int))×Bool):=(bjz.f a2 a3).bind fun t651=>(if t651=true then ((apz.f k a0 a1 (wrap64 (a2+a3)) a2).bind fun bt652=>(if 0<=a2 then (if a2<=(bt652.1.length:Int) then ((ahz.f k a0 a1 (bt652.1.take (a2:Int).toNat)).bind fun bt661=>((akz.f k a0 a1 bt652.1 bt661.1).bind fun bt665=>(some (bt665.1,bt665.2)))) else (none)) else (none))) else (some (([] :List (List Int)),false)))
theorem a2z.mono: ∀a0 a1 a2 a3 k,LeO (a2z.f k a0 a1 a2 a3) (a2z.f (k+1) a0 a1 a2 a3):=by
 intro a0 a1 a2 a3 k;unfold a2z.f
 repeat' with_reducible first|apply akz.mono|apply ahz.mono|apply apz.mono|apply Yg|apply Yh|apply Yi|refine Yj ?_ fun _=>?_
theorem a2z.calls (k : Nat) (a0 : Int) (a1 : Int) (a2 : Int) (a3 : Int) (r1 : List (List Int)) (r2 : Bool) (w : World) (h : a2z.f k a0 a1 a2 a3 = some (r1, r2)) :
  Calls Tryz.prog 87 #[.int .i64 a0, .int .u32 a1, .int .i64 a2, .int .i64 a3] w fun e w'=> ∃v0_:Value,e= .returned (.tuple #[v0_, .bool r2])/\Kd.N (Kd.slice 3 (Kd.int .i64)) 57 w' w.heap.size (fun k_=>(w.heap.size<=k_)) v0_ r1/\Below w.heap.size w w':=by
 have HB:=Za (Zw w.heap.size w);have H:=h;clear h;unfold a2z.f at H;obtain ⟨t651,A5,H⟩:=ob_ H
 (try dsimp only at H)
 by_cases c6:t651=true
 rotate_left
 ·replace c6:=Zr c6;subst c6;rw [Yb (show¬(false=true) by decide)] at H;simp only [Zx,Zy] at H;obtain ⟨rfl,rfl⟩:=H;go_enter Tryz.func87,Tryz.ntmps87
  go_wp2_with (first|((with_reducible refine aaz (f:=129) rfl ?_);refine gl_ (some 16) Tryz.func129 #[.int .i64 a2, .int .i64 a3] ?_;(with_reducible refine (bjz.calls a2 a3 false _ A5.out).mono ?_);rintro e w' ⟨rfl,⟨nd,rfl⟩⟩;refine ⟨_,rfl,?_⟩))
  go_ret2;exact ⟨_,er_,nl_,bl_⟩
 subst c6;rw [Ya rfl] at H;obtain ⟨⟨t652,t653⟩,A7,H⟩:=ob_ H
 (try dsimp only at H)
 by_cases c8:0<=a2
 rotate_left
 ·rw [Yb c8] at H;exact Yf H (by simp)
 rw [Ya c8] at H;have c8b0:=Zz c8;have c8b1:=Zd c8;clear c8;by_cases c9:a2<=(t652.length:Int)
 rotate_left
 ·rw [Yb c9] at H;exact Yf H (by simp)
 rw [Ya c9] at H;have c9b0:=Zz c9;have c9b1:=Zd c9;clear c9;obtain ⟨y656,hy656⟩: ∃y_:List (List Int),y_=(t652.take (a2:Int).toNat):=⟨_,rfl⟩
 first|rw [Zl, <-hy656] at H|rw [<-hy656] at H
 (try dsimp only at H)
 have Ny656:=Za hy656;clear hy656;obtain ⟨⟨t661,t664⟩,A10,H⟩:=ob_ H
 (try dsimp only at H)
 obtain ⟨⟨t665,t666⟩,A11,H⟩:=ob_ H
 (try dsimp only at H)
 simp only [Zx,Zy] at H;obtain ⟨rfl,rfl⟩:=H;go_enter Tryz.func87,Tryz.ntmps87
 go_wp2_with (first|((with_reducible refine aaz (f:=129) rfl ?_);refine gl_ (some 16) Tryz.func129 #[.int .i64 a2, .int .i64 a3] ?_;(with_reducible refine (bjz.calls a2 a3 true _ A5.out).mono ?_);rintro e w' ⟨rfl,⟨nd,rfl⟩⟩;refine ⟨_,rfl,?_⟩)|((with_reducible refine aaz (f:=133) rfl ?_);refine gl_ (some 25) Tryz.func133 #[.int .i64 a0, .int .u32 a1, .int .i64 (wrap64 (a2+a3)), .int .i64 a2] ?_;(with_reducible refine (apz.calls k a0 a1 (wrap64 (a2+a3)) a2 t652 t653 _ A7.out).mono ?_);rintro e w12 ⟨v654,rfl,ho0,hb⟩;refine ⟨_,rfl,?_⟩;have n_:=Zb (Za (Kd.cnz (Kd.cjz (ok':=fun k_=>(w.heap.size<=k_)) (Kd.S_N (Kd.bVz ho0)) (fun k_ hk_=>(Zt (adz bl_) hk_.2.1))) (adz bl_))) (hs_ HB hb);clear HB;obtain ⟨HO655,HB⟩:=n_;clear hb ho0;obtain ⟨Ao14,co14,eo14⟩:=Kd.cTz HO655.out;subst eo14;have q13:(a2:Int)<=((t652.length:Int):Int):=Zc as_;obtain ⟨i013,hi013,_,hsz13,_⟩:=info_parts info57;have hroom13:t652.length<=co14:=(Kd.bLz HO655.out).2.1;have hC13:Kd.F (Kd.slice 3 (Kd.int .i64)) _ _ Ao14 t652.length t652:=(Kd.V_at (base:=w.heap.size) (Kd.N_V HO655.out)).2.2;have hcut13:=cut_to (P:=Tryz.prog) 68 57 .i64 Tryz.underlying68 hi013 Ao14 t652.length co14 a2 (Zc as_) q13 hroom13;have hr13:=Kd.F_take (m:=(a2:Int).toNat) hC13 (by omega);have hy13:y656.length=(a2:Int).toNat:=(by rw [Ny656.out,List.length_take];omega);rw [<-Ny656.out] at hr13;rw [<-hy13] at hcut13;have HO660:=Za (show Kd.V (Kd.slice 3 (Kd.int .i64)) 57 _ w.heap.size _ (.slice Ao14 y656.length co14) y656 from Kd.V_mk (by omega) hr13);have HC660:=Za (show y656.length<=co14 from by omega);clear hr13 hC13 hroom13 hi013 hsz13;have KY13:=Za hy13;clear hy13;replace q13:=Zz q13)|((with_reducible refine aaz (f:=64) rfl ?_);refine gl_ (some 34) Tryz.func64 #[.int .i64 a0, .int .u32 a1, .slice Ao14 y656.length co14] ?_;(with_reducible refine (ahz.calls k a0 a1 _ _ y656 t661 t664 _ (xd_ (Kd.c5z HO660.out).2.2) ((Kd.c5z HO660.out).2.1) A10.out).mono ?_);rintro e w15 ⟨v662,rfl,ho0,hb⟩;refine ⟨_,rfl,?_⟩;have n_:=Zb (Za (Kd.cBz (xd_ HO655.out) (Kd.dqz ho0) hb)) (Zb (Za (Kd.dyz (xd_ HO660.out) (Kd.dqz ho0) hb)) (Zb (Za (Kd.cnz (Kd.cjz (ok':=fun k_=>(w.heap.size<=k_)/\some k_≠(.slice Ao14 t652.length co14:Value).ownBlock) ho0 (fun k_ hk_=>⟨(Zt (adz bl_) hk_),(Kd.fresh' (Kd.N_lt (xd_ HO655.out)) k_ hk_)⟩)) (adz bl_))) (hs_ HB hb)));clear HO655 HO660 HB;obtain ⟨HO655,HO660,HO663,HB⟩:=n_;clear hb ho0;obtain ⟨Ao16,co16,eo16⟩:=Kd.cTz HO663.out;subst eo16)|((with_reducible refine aaz (f:=127) rfl ?_);refine gl_ (some 41) Tryz.func127 #[.int .i64 a0, .int .u32 a1, .slice Ao14 t652.length co14, .slice Ao16 t661.length co16] ?_;(with_reducible refine (akz.calls k a0 a1 _ _ t652 _ _ t661 t665 t666 _ (xd_ (Kd.bLz HO655.out).2.2) ((Kd.bLz HO655.out).2.1) (xd_ (Kd.bLz HO663.out).2.2) ((Kd.bLz HO663.out).2.1) A11.out).mono ?_);rintro e w17 ⟨v667,rfl,ho0,hb⟩;refine ⟨_,rfl,?_⟩;have n_:=Zb (Za (Kd.cBz (xd_ HO655.out) (Kd.dKz ho0) hb)) (Zb (Za (Kd.dyz (xd_ HO660.out) (Kd.dKz ho0) hb)) (Zb (Za (Kd.cBz (xd_ HO663.out) (Kd.dKz ho0) hb)) (Zb (Za (Kd.cnz (Kd.cjz (ok':=fun k_=>(w.heap.size<=k_)/\some k_≠(.slice Ao14 t652.length co14:Value).ownBlock/\some k_≠(.slice Ao16 t661.length co16:Value).ownBlock) (Kd.S_N (Kd.bVz ho0)) (fun k_ hk_=>⟨(Zt (adz bl_) hk_.2.1),(Kd.fresh' (Kd.N_lt (xd_ HO655.out)) k_ hk_.2.1),(Kd.fresh' (Kd.N_lt (xd_ HO663.out)) k_ hk_.2.1)⟩)) (adz bl_))) (hs_ HB hb))));clear HO655 HO660 HO663 HB;obtain ⟨HO655,HO660,HO663,HO668,HB⟩:=n_;clear hb ho0))
 go_ret2;exact ⟨_,er_,nm_ HO668,bl_⟩
def bwz.f (k:Nat) (a0_0:Int) (a0_1:Int) (a0_2:Int):Option ((List (List Int))×Bool):=(aRz.f a0_0 a0_1 a0_2).bind fun t670=>(if t670=true then ((aNz.f a0_0).bind fun bt671=>(if a0_0=1 then ((acz.f k bt671.2.1 bt671.2.2.1 a0_1 a0_2).bind fun bt678=>(some (bt678.1,bt678.2))) else (if a0_0=2 then ((a9z.f k bt671.2.1 bt671.2.2.1 a0_1 a0_2).bind fun bt682=>(some (bt682.1,bt682.2))) else (if a0_0=3 then ((arz.f k bt671.2.1 bt671.2.2.1 a0_1 a0_2).bind fun bt686=>(some (bt686.1,bt686.2))) else (if a0_0=4 then ((baz.f k bt671.2.1 bt671.2.2.1 a0_1 a0_2).bind fun bt690=>(some (bt690.1,bt690.2))) else ((a2z.f k bt671.2.1 bt671.2.2.1 a0_1 a0_2).bind fun bt694=>(if 0<=a0_1 then (if a0_1<=(bt694.1.length:Int) then (some ((bt694.1.drop (a0_1:Int).toNat),bt694.2)) else (none)) else (none)))))))) else (some (([] :List (List Int)),false)))
theorem bwz.mono: ∀a0 a1 a2 k,LeO (bwz.f k a0 a1 a2) (bwz.f (k+1) a0 a1 a2):=by
 intro a0 a1 a2 k;unfold bwz.f
 repeat' with_reducible first|apply arz.mono|apply a2z.mono|apply acz.mono|apply baz.mono|apply a9z.mono|apply Yg|apply Yh|apply Yi|refine Yj ?_ fun _=>?_
theorem bwz.calls (k : Nat) (a0_0 : Int) (a0_1 : Int) (a0_2 : Int) (r1 : List (List Int)) (r2 : Bool) (w : World) (h : bwz.f k a0_0 a0_1 a0_2 = some (r1, r2)) :
  Calls Tryz.prog 51 #[.agg #[.int .i64 a0_0, .int .i64 a0_1, .int .i64 a0_2]] w fun e w'=> ∃v0_:Value,e= .returned (.tuple #[v0_, .bool r2])/\Kd.V (Kd.slice 3 (Kd.int .i64)) 57 w' w.heap.size (fun k_=>(w.heap.size<=k_)) v0_ r1/\Below w.heap.size w w':=by
 have hu23:=Tryz.underlying23;have hu79:=Tryz.underlying79;have HB:=Za (Zw w.heap.size w);have H:=h;clear h;unfold bwz.f at H;obtain ⟨t670,A2,H⟩:=ob_ H
 (try dsimp only at H)
 by_cases c3:t670=true
 rotate_left
 ·replace c3:=Zr c3;subst c3;rw [Yb (show¬(false=true) by decide)] at H;simp only [Zx,Zy] at H;obtain ⟨rfl,rfl⟩:=H;go_enter Tryz.func51,Tryz.ntmps51
  go_wp2_with (first|((with_reducible refine aMz (N:=1) rfl ?_);refine bx_ 1 #[.int .i64 a0_0, .int .i64 a0_1, .int .i64 a0_2] 23 ?_;intro gb669 hg w69 hbox hb;have n_:=Zb (hs_ HB hb) (Zb (Za (hbox)) (Zb (ag_ HB gb669) (ag_ HB gb669)));clear HB;obtain ⟨HB,BK669,GW669,GE669⟩:=n_;clear hb hbox hg;obtain ⟨_,_,_,_,_,_⟩:=bc3_ BK669.out)|((with_reducible refine aaz (f:=48) rfl ?_);refine gl_ (some 9) Tryz.func48 #[.agg #[.int .i64 a0_0, .int .i64 a0_1, .int .i64 a0_2]] ?_;(with_reducible refine (aRz.calls a0_0 a0_1 a0_2 false _ A2.out).mono ?_);rintro e w71 ⟨rfl,hb⟩;refine ⟨_,rfl,?_⟩;have n_:=Zb (bb_ BK669 hb) (hs_ HB hb);clear BK669 HB;obtain ⟨BK669,HB⟩:=n_;(try clear hb)))
  go_ret2;exact ⟨_,er_,(by first|exact Kd.V_nil _ _ _ _ _|exact Kd.N_V (Kd.N_nil _ _ _ _ _)),bl_⟩
 subst c3;rw [Ya rfl] at H;obtain ⟨⟨t671,t672,t673,t674,t675,t676⟩,A4,H⟩:=ob_ H
 (try dsimp only at H)
 by_cases c5:a0_0=1
 ·rw [Ya c5] at H;have c5b0:(a0_0==1)=true:=Ye c5;have c5b1:(a0_0 !=1)=false:=Yc c5;clear c5;obtain ⟨⟨t678,t681⟩,A6,H⟩:=ob_ H
  (try dsimp only at H)
  simp only [Zx,Zy] at H;obtain ⟨rfl,rfl⟩:=H;go_enter Tryz.func51,Tryz.ntmps51
  go_wp2_with (first|((with_reducible refine aMz (N:=1) rfl ?_);refine bx_ 1 #[.int .i64 a0_0, .int .i64 a0_1, .int .i64 a0_2] 23 ?_;intro gb669 hg w7 hbox hb;have n_:=Zb (hs_ HB hb) (Zb (Za (hbox)) (Zb (ag_ HB gb669) (ag_ HB gb669)));clear HB;obtain ⟨HB,BK669,GW669,GE669⟩:=n_;clear hb hbox hg;obtain ⟨_,_,_,_,_,_⟩:=bc3_ BK669.out)|((with_reducible refine aaz (f:=48) rfl ?_);refine gl_ (some 9) Tryz.func48 #[.agg #[.int .i64 a0_0, .int .i64 a0_1, .int .i64 a0_2]] ?_;(with_reducible refine (aRz.calls a0_0 a0_1 a0_2 true _ A2.out).mono ?_);rintro e w9 ⟨rfl,hb⟩;refine ⟨_,rfl,?_⟩;have n_:=Zb (bb_ BK669 hb) (hs_ HB hb);clear BK669 HB;obtain ⟨BK669,HB⟩:=n_;(try clear hb);obtain ⟨_,_,_,_,_,_⟩:=bc3_ BK669.out)|((with_reducible refine aaz (f:=50) rfl ?_);refine gl_ (some 14) Tryz.func50 #[.int .i64 a0_0] ?_;(with_reducible refine (aNz.calls a0_0 t671 t672 t673 t674 t675 t676 _ A4.out).mono ?_);rintro e w11 ⟨rfl,hb⟩;refine ⟨_,rfl,?_⟩;have n_:=Zb (bb_ BK669 hb) (hs_ HB hb);clear BK669 HB;obtain ⟨BK669,HB⟩:=n_;(try clear hb))|((with_reducible refine aMz (N:=4) rfl ?_);refine b4z ?hg (N:=4) ?hd (cs:= #[.string (⟨#[]⟩:ByteArray), .int .i64 0, .int .u32 0, .int .u8 0, .int .i64 0]) (t:=79) ?hr ?_;(case hd=>rfl);(case hg=>rfl);(case hr=>first|(go_simp;done)|(go_simp;rfl));intro gb677 hg w12 hbox hb;have n_:=Zb (bb_ BK669 hb) (Zb (hs_ HB hb) (Zb (Za (hbox)) (Zb (ag_ HB gb677) (Zb (ag_ HB gb677) (Zb (n1_ BK669 gb677) (n2_ BK669 gb677))))));clear BK669 HB;obtain ⟨BK669,HB,BK677,GW677,GE677,NB669_677,NB677_669⟩:=n_;clear hb hbox hg;have hnb13:=NB677_669.out;have hnc13:=NB669_677.out;obtain ⟨_,_,_,_,_,_,_,_,_,_⟩:=bc5_ BK677.out;obtain ⟨_,_,_,_,_,_⟩:=bc3_ BK669.out)|((with_reducible refine aaz (f:=83) rfl ?_);refine gl_ (some 29) Tryz.func83 #[.int .i64 t672, .int .u32 t673, .int .i64 a0_1, .int .i64 a0_2] ?_;(with_reducible refine (acz.calls k t672 t673 a0_1 a0_2 t678 t681 _ A6.out).mono ?_);rintro e w16 ⟨v679,rfl,ho0,hb⟩;refine ⟨_,rfl,?_⟩;have n_:=Zb (Za (Kd.cnz (Kd.cjz (ok':=fun k_=>(w.heap.size<=k_)/\k_≠gb669/\k_≠gb677) ho0 (fun k_ hk_=>⟨(Zt (adz bl_) hk_),(Kd.freshB (g:=gb669) (o:= .cells #[.int .i64 a0_0, .int .i64 a0_1, .int .i64 a0_2] 23 (0,0)) kb_ k_ hk_),(Kd.freshB (g:=gb677) (o:= .cells #[.string t671, .int .i64 t672, .int .u32 t673, .int .u8 t674, .int .i64 t675] 79 (0,0)) kb_ k_ hk_)⟩)) (adz bl_))) (Zb (Za (aBz (g:=gb669) (o:= .cells #[.int .i64 a0_0, .int .i64 a0_1, .int .i64 a0_2] 23 (0,0)) kb_ hb)) (Zb (Za (aBz (g:=gb677) (o:= .cells #[.string t671, .int .i64 t672, .int .u32 t673, .int .u8 t674, .int .i64 t675] 79 (0,0)) kb_ hb)) (hs_ HB hb)));clear BK669 BK677 HB;obtain ⟨HO680,BK669,BK677,HB⟩:=n_;clear hb ho0))
  go_ret2;exact ⟨_,er_,Kd.N_V (nm_ HO680),bl_⟩
 ·rw [Yb c5] at H;have c5b0:(a0_0==1)=false:=Zq c5;have c5b1:(a0_0 !=1)=true:=Yd c5;by_cases c17:a0_0=2
  ·rw [Ya c17] at H;have c17b0:(a0_0==2)=true:=Ye c17;have c17b1:(a0_0 !=2)=false:=Yc c17;clear c17;obtain ⟨⟨t682,t683⟩,A18,H⟩:=ob_ H
   (try dsimp only at H)
   simp only [Zx,Zy] at H;obtain ⟨rfl,rfl⟩:=H;go_enter Tryz.func51,Tryz.ntmps51
   go_wp2_with (first|((with_reducible refine aMz (N:=1) rfl ?_);refine bx_ 1 #[.int .i64 a0_0, .int .i64 a0_1, .int .i64 a0_2] 23 ?_;intro gb669 hg w19 hbox hb;have n_:=Zb (hs_ HB hb) (Zb (Za (hbox)) (Zb (ag_ HB gb669) (ag_ HB gb669)));clear HB;obtain ⟨HB,BK669,GW669,GE669⟩:=n_;clear hb hbox hg;obtain ⟨_,_,_,_,_,_⟩:=bc3_ BK669.out)|((with_reducible refine aaz (f:=48) rfl ?_);refine gl_ (some 9) Tryz.func48 #[.agg #[.int .i64 a0_0, .int .i64 a0_1, .int .i64 a0_2]] ?_;(with_reducible refine (aRz.calls a0_0 a0_1 a0_2 true _ A2.out).mono ?_);rintro e w21 ⟨rfl,hb⟩;refine ⟨_,rfl,?_⟩;have n_:=Zb (bb_ BK669 hb) (hs_ HB hb);clear BK669 HB;obtain ⟨BK669,HB⟩:=n_;(try clear hb);obtain ⟨_,_,_,_,_,_⟩:=bc3_ BK669.out)|((with_reducible refine aaz (f:=50) rfl ?_);refine gl_ (some 14) Tryz.func50 #[.int .i64 a0_0] ?_;(with_reducible refine (aNz.calls a0_0 t671 t672 t673 t674 t675 t676 _ A4.out).mono ?_);rintro e w23 ⟨rfl,hb⟩;refine ⟨_,rfl,?_⟩;have n_:=Zb (bb_ BK669 hb) (hs_ HB hb);clear BK669 HB;obtain ⟨BK669,HB⟩:=n_;(try clear hb))|((with_reducible refine aMz (N:=4) rfl ?_);refine b4z ?hg (N:=4) ?hd (cs:= #[.string (⟨#[]⟩:ByteArray), .int .i64 0, .int .u32 0, .int .u8 0, .int .i64 0]) (t:=79) ?hr ?_;(case hd=>rfl);(case hg=>rfl);(case hr=>first|(go_simp;done)|(go_simp;rfl));intro gb677 hg w24 hbox hb;have n_:=Zb (bb_ BK669 hb) (Zb (hs_ HB hb) (Zb (Za (hbox)) (Zb (ag_ HB gb677) (Zb (ag_ HB gb677) (Zb (n1_ BK669 gb677) (n2_ BK669 gb677))))));clear BK669 HB;obtain ⟨BK669,HB,BK677,GW677,GE677,NB669_677,NB677_669⟩:=n_;clear hb hbox hg;have hnb25:=NB677_669.out;have hnc25:=NB669_677.out;obtain ⟨_,_,_,_,_,_,_,_,_,_⟩:=bc5_ BK677.out;obtain ⟨_,_,_,_,_,_⟩:=bc3_ BK669.out)|((with_reducible refine aaz (f:=84) rfl ?_);refine gl_ (some 42) Tryz.func84 #[.int .i64 t672, .int .u32 t673, .int .i64 a0_1, .int .i64 a0_2] ?_;(with_reducible refine (a9z.calls k t672 t673 a0_1 a0_2 t682 t683 _ A18.out).mono ?_);rintro e w28 ⟨v684,rfl,ho0,hb⟩;refine ⟨_,rfl,?_⟩;have n_:=Zb (Za (Kd.cnz (Kd.cjz (ok':=fun k_=>(w.heap.size<=k_)/\k_≠gb669/\k_≠gb677) (Kd.S_N (Kd.bVz ho0)) (fun k_ hk_=>⟨(Zt (adz bl_) hk_.2.1),(Kd.freshB (g:=gb669) (o:= .cells #[.int .i64 a0_0, .int .i64 a0_1, .int .i64 a0_2] 23 (0,0)) kb_ k_ hk_.2.1),(Kd.freshB (g:=gb677) (o:= .cells #[.string t671, .int .i64 t672, .int .u32 t673, .int .u8 t674, .int .i64 t675] 79 (0,0)) kb_ k_ hk_.2.1)⟩)) (adz bl_))) (Zb (Za (aBz (g:=gb669) (o:= .cells #[.int .i64 a0_0, .int .i64 a0_1, .int .i64 a0_2] 23 (0,0)) kb_ hb)) (Zb (Za (aBz (g:=gb677) (o:= .cells #[.string t671, .int .i64 t672, .int .u32 t673, .int .u8 t674, .int .i64 t675] 79 (0,0)) kb_ hb)) (hs_ HB hb)));clear BK669 BK677 HB;obtain ⟨HO685,BK669,BK677,HB⟩:=n_;clear hb ho0))
   go_ret2;exact ⟨_,er_,Kd.N_V (nm_ HO685),bl_⟩
  ·rw [Yb c17] at H;have c17b0:(a0_0==2)=false:=Zq c17;have c17b1:(a0_0 !=2)=true:=Yd c17;by_cases c29:a0_0=3
   ·rw [Ya c29] at H;have c29b0:(a0_0==3)=true:=Ye c29;have c29b1:(a0_0 !=3)=false:=Yc c29;clear c29;obtain ⟨⟨t686,t687⟩,A30,H⟩:=ob_ H
    (try dsimp only at H)
    simp only [Zx,Zy] at H;obtain ⟨rfl,rfl⟩:=H;go_enter Tryz.func51,Tryz.ntmps51
    go_wp2_with (first|((with_reducible refine aMz (N:=1) rfl ?_);refine bx_ 1 #[.int .i64 a0_0, .int .i64 a0_1, .int .i64 a0_2] 23 ?_;intro gb669 hg w31 hbox hb;have n_:=Zb (hs_ HB hb) (Zb (Za (hbox)) (Zb (ag_ HB gb669) (ag_ HB gb669)));clear HB;obtain ⟨HB,BK669,GW669,GE669⟩:=n_;clear hb hbox hg;obtain ⟨_,_,_,_,_,_⟩:=bc3_ BK669.out)|((with_reducible refine aaz (f:=48) rfl ?_);refine gl_ (some 9) Tryz.func48 #[.agg #[.int .i64 a0_0, .int .i64 a0_1, .int .i64 a0_2]] ?_;(with_reducible refine (aRz.calls a0_0 a0_1 a0_2 true _ A2.out).mono ?_);rintro e w33 ⟨rfl,hb⟩;refine ⟨_,rfl,?_⟩;have n_:=Zb (bb_ BK669 hb) (hs_ HB hb);clear BK669 HB;obtain ⟨BK669,HB⟩:=n_;(try clear hb);obtain ⟨_,_,_,_,_,_⟩:=bc3_ BK669.out)|((with_reducible refine aaz (f:=50) rfl ?_);refine gl_ (some 14) Tryz.func50 #[.int .i64 a0_0] ?_;(with_reducible refine (aNz.calls a0_0 t671 t672 t673 t674 t675 t676 _ A4.out).mono ?_);rintro e w35 ⟨rfl,hb⟩;refine ⟨_,rfl,?_⟩;have n_:=Zb (bb_ BK669 hb) (hs_ HB hb);clear BK669 HB;obtain ⟨BK669,HB⟩:=n_;(try clear hb))|((with_reducible refine aMz (N:=4) rfl ?_);refine b4z ?hg (N:=4) ?hd (cs:= #[.string (⟨#[]⟩:ByteArray), .int .i64 0, .int .u32 0, .int .u8 0, .int .i64 0]) (t:=79) ?hr ?_;(case hd=>rfl);(case hg=>rfl);(case hr=>first|(go_simp;done)|(go_simp;rfl));intro gb677 hg w36 hbox hb;have n_:=Zb (bb_ BK669 hb) (Zb (hs_ HB hb) (Zb (Za (hbox)) (Zb (ag_ HB gb677) (Zb (ag_ HB gb677) (Zb (n1_ BK669 gb677) (n2_ BK669 gb677))))));clear BK669 HB;obtain ⟨BK669,HB,BK677,GW677,GE677,NB669_677,NB677_669⟩:=n_;clear hb hbox hg;have hnb37:=NB677_669.out;have hnc37:=NB669_677.out;obtain ⟨_,_,_,_,_,_,_,_,_,_⟩:=bc5_ BK677.out;obtain ⟨_,_,_,_,_,_⟩:=bc3_ BK669.out)|((with_reducible refine aaz (f:=85) rfl ?_);refine gl_ (some 55) Tryz.func85 #[.int .i64 t672, .int .u32 t673, .int .i64 a0_1, .int .i64 a0_2] ?_;(with_reducible refine (arz.calls k t672 t673 a0_1 a0_2 t686 t687 _ A30.out).mono ?_);rintro e w40 ⟨v688,rfl,ho0,hb⟩;refine ⟨_,rfl,?_⟩;have n_:=Zb (Za (Kd.cnz (Kd.cjz (ok':=fun k_=>(w.heap.size<=k_)/\k_≠gb669/\k_≠gb677) (Kd.S_N (Kd.bVz ho0)) (fun k_ hk_=>⟨(Zt (adz bl_) hk_.2.1),(Kd.freshB (g:=gb669) (o:= .cells #[.int .i64 a0_0, .int .i64 a0_1, .int .i64 a0_2] 23 (0,0)) kb_ k_ hk_.2.1),(Kd.freshB (g:=gb677) (o:= .cells #[.string t671, .int .i64 t672, .int .u32 t673, .int .u8 t674, .int .i64 t675] 79 (0,0)) kb_ k_ hk_.2.1)⟩)) (adz bl_))) (Zb (Za (aBz (g:=gb669) (o:= .cells #[.int .i64 a0_0, .int .i64 a0_1, .int .i64 a0_2] 23 (0,0)) kb_ hb)) (Zb (Za (aBz (g:=gb677) (o:= .cells #[.string t671, .int .i64 t672, .int .u32 t673, .int .u8 t674, .int .i64 t675] 79 (0,0)) kb_ hb)) (hs_ HB hb)));clear BK669 BK677 HB;obtain ⟨HO689,BK669,BK677,HB⟩:=n_;clear hb ho0))
    go_ret2;exact ⟨_,er_,Kd.N_V (nm_ HO689),bl_⟩
   ·rw [Yb c29] at H;have c29b0:(a0_0==3)=false:=Zq c29;have c29b1:(a0_0 !=3)=true:=Yd c29;by_cases c41:a0_0=4
    ·rw [Ya c41] at H;have c41b0:(a0_0==4)=true:=Ye c41;have c41b1:(a0_0 !=4)=false:=Yc c41;clear c41;obtain ⟨⟨t690,t691⟩,A42,H⟩:=ob_ H
     (try dsimp only at H)
     simp only [Zx,Zy] at H;obtain ⟨rfl,rfl⟩:=H;go_enter Tryz.func51,Tryz.ntmps51
     go_wp2_with (first|((with_reducible refine aMz (N:=1) rfl ?_);refine bx_ 1 #[.int .i64 a0_0, .int .i64 a0_1, .int .i64 a0_2] 23 ?_;intro gb669 hg w43 hbox hb;have n_:=Zb (hs_ HB hb) (Zb (Za (hbox)) (Zb (ag_ HB gb669) (ag_ HB gb669)));clear HB;obtain ⟨HB,BK669,GW669,GE669⟩:=n_;clear hb hbox hg;obtain ⟨_,_,_,_,_,_⟩:=bc3_ BK669.out)|((with_reducible refine aaz (f:=48) rfl ?_);refine gl_ (some 9) Tryz.func48 #[.agg #[.int .i64 a0_0, .int .i64 a0_1, .int .i64 a0_2]] ?_;(with_reducible refine (aRz.calls a0_0 a0_1 a0_2 true _ A2.out).mono ?_);rintro e w45 ⟨rfl,hb⟩;refine ⟨_,rfl,?_⟩;have n_:=Zb (bb_ BK669 hb) (hs_ HB hb);clear BK669 HB;obtain ⟨BK669,HB⟩:=n_;(try clear hb);obtain ⟨_,_,_,_,_,_⟩:=bc3_ BK669.out)|((with_reducible refine aaz (f:=50) rfl ?_);refine gl_ (some 14) Tryz.func50 #[.int .i64 a0_0] ?_;(with_reducible refine (aNz.calls a0_0 t671 t672 t673 t674 t675 t676 _ A4.out).mono ?_);rintro e w47 ⟨rfl,hb⟩;refine ⟨_,rfl,?_⟩;have n_:=Zb (bb_ BK669 hb) (hs_ HB hb);clear BK669 HB;obtain ⟨BK669,HB⟩:=n_;(try clear hb))|((with_reducible refine aMz (N:=4) rfl ?_);refine b4z ?hg (N:=4) ?hd (cs:= #[.string (⟨#[]⟩:ByteArray), .int .i64 0, .int .u32 0, .int .u8 0, .int .i64 0]) (t:=79) ?hr ?_;(case hd=>rfl);(case hg=>rfl);(case hr=>first|(go_simp;done)|(go_simp;rfl));intro gb677 hg w48 hbox hb;have n_:=Zb (bb_ BK669 hb) (Zb (hs_ HB hb) (Zb (Za (hbox)) (Zb (ag_ HB gb677) (Zb (ag_ HB gb677) (Zb (n1_ BK669 gb677) (n2_ BK669 gb677))))));clear BK669 HB;obtain ⟨BK669,HB,BK677,GW677,GE677,NB669_677,NB677_669⟩:=n_;clear hb hbox hg;have hnb49:=NB677_669.out;have hnc49:=NB669_677.out;obtain ⟨_,_,_,_,_,_,_,_,_,_⟩:=bc5_ BK677.out;obtain ⟨_,_,_,_,_,_⟩:=bc3_ BK669.out)|((with_reducible refine aaz (f:=86) rfl ?_);refine gl_ (some 68) Tryz.func86 #[.int .i64 t672, .int .u32 t673, .int .i64 a0_1, .int .i64 a0_2] ?_;(with_reducible refine (baz.calls k t672 t673 a0_1 a0_2 t690 t691 _ A42.out).mono ?_);rintro e w52 ⟨v692,rfl,ho0,hb⟩;refine ⟨_,rfl,?_⟩;have n_:=Zb (Za (Kd.cnz (Kd.cjz (ok':=fun k_=>(w.heap.size<=k_)/\k_≠gb669/\k_≠gb677) (Kd.S_N (Kd.bVz ho0)) (fun k_ hk_=>⟨(Zt (adz bl_) hk_.2.1),(Kd.freshB (g:=gb669) (o:= .cells #[.int .i64 a0_0, .int .i64 a0_1, .int .i64 a0_2] 23 (0,0)) kb_ k_ hk_.2.1),(Kd.freshB (g:=gb677) (o:= .cells #[.string t671, .int .i64 t672, .int .u32 t673, .int .u8 t674, .int .i64 t675] 79 (0,0)) kb_ k_ hk_.2.1)⟩)) (adz bl_))) (Zb (Za (aBz (g:=gb669) (o:= .cells #[.int .i64 a0_0, .int .i64 a0_1, .int .i64 a0_2] 23 (0,0)) kb_ hb)) (Zb (Za (aBz (g:=gb677) (o:= .cells #[.string t671, .int .i64 t672, .int .u32 t673, .int .u8 t674, .int .i64 t675] 79 (0,0)) kb_ hb)) (hs_ HB hb)));clear BK669 BK677 HB;obtain ⟨HO693,BK669,BK677,HB⟩:=n_;clear hb ho0))
     go_ret2;exact ⟨_,er_,Kd.N_V (nm_ HO693),bl_⟩
    ·rw [Yb c41] at H;have c41b0:(a0_0==4)=false:=Zq c41;have c41b1:(a0_0 !=4)=true:=Yd c41;obtain ⟨⟨t694,t697⟩,A53,H⟩:=ob_ H
     (try dsimp only at H)
     by_cases c54:0<=a0_1
     rotate_left
     ·rw [Yb c54] at H;exact Yf H (by simp)
     rw [Ya c54] at H;have c54b0:=Zz c54;have c54b1:=Zd c54;clear c54;by_cases c55:a0_1<=(t694.length:Int)
     rotate_left
     ·rw [Yb c55] at H;exact Yf H (by simp)
     rw [Ya c55] at H;have c55b0:=Zz c55;have c55b1:=Zd c55;clear c55;obtain ⟨y698,hy698⟩: ∃y_:List (List Int),y_=(t694.drop (a0_1:Int).toNat):=⟨_,rfl⟩
     first|rw [Zl, <-hy698] at H|rw [<-hy698] at H
     (try dsimp only at H)
     have Ny698:=Za hy698;clear hy698;simp only [Zx,Zy] at H;obtain ⟨rfl,rfl⟩:=H;go_enter Tryz.func51,Tryz.ntmps51
     go_wp2_with (first|((with_reducible refine aMz (N:=1) rfl ?_);refine bx_ 1 #[.int .i64 a0_0, .int .i64 a0_1, .int .i64 a0_2] 23 ?_;intro gb669 hg w56 hbox hb;have n_:=Zb (hs_ HB hb) (Zb (Za (hbox)) (Zb (ag_ HB gb669) (ag_ HB gb669)));clear HB;obtain ⟨HB,BK669,GW669,GE669⟩:=n_;clear hb hbox hg;obtain ⟨_,_,_,_,_,_⟩:=bc3_ BK669.out)|((with_reducible refine aaz (f:=48) rfl ?_);refine gl_ (some 9) Tryz.func48 #[.agg #[.int .i64 a0_0, .int .i64 a0_1, .int .i64 a0_2]] ?_;(with_reducible refine (aRz.calls a0_0 a0_1 a0_2 true _ A2.out).mono ?_);rintro e w58 ⟨rfl,hb⟩;refine ⟨_,rfl,?_⟩;have n_:=Zb (bb_ BK669 hb) (hs_ HB hb);clear BK669 HB;obtain ⟨BK669,HB⟩:=n_;(try clear hb);obtain ⟨_,_,_,_,_,_⟩:=bc3_ BK669.out)|((with_reducible refine aaz (f:=50) rfl ?_);refine gl_ (some 14) Tryz.func50 #[.int .i64 a0_0] ?_;(with_reducible refine (aNz.calls a0_0 t671 t672 t673 t674 t675 t676 _ A4.out).mono ?_);rintro e w60 ⟨rfl,hb⟩;refine ⟨_,rfl,?_⟩;have n_:=Zb (bb_ BK669 hb) (hs_ HB hb);clear BK669 HB;obtain ⟨BK669,HB⟩:=n_;(try clear hb))|((with_reducible refine aMz (N:=4) rfl ?_);refine b4z ?hg (N:=4) ?hd (cs:= #[.string (⟨#[]⟩:ByteArray), .int .i64 0, .int .u32 0, .int .u8 0, .int .i64 0]) (t:=79) ?hr ?_;(case hd=>rfl);(case hg=>rfl);(case hr=>first|(go_simp;done)|(go_simp;rfl));intro gb677 hg w61 hbox hb;have n_:=Zb (bb_ BK669 hb) (Zb (hs_ HB hb) (Zb (Za (hbox)) (Zb (ag_ HB gb677) (Zb (ag_ HB gb677) (Zb (n1_ BK669 gb677) (n2_ BK669 gb677))))));clear BK669 HB;obtain ⟨BK669,HB,BK677,GW677,GE677,NB669_677,NB677_669⟩:=n_;clear hb hbox hg;have hnb62:=NB677_669.out;have hnc62:=NB669_677.out;obtain ⟨_,_,_,_,_,_,_,_,_,_⟩:=bc5_ BK677.out;obtain ⟨_,_,_,_,_,_⟩:=bc3_ BK669.out)|((with_reducible refine aaz (f:=87) rfl ?_);refine gl_ (some 80) Tryz.func87 #[.int .i64 t672, .int .u32 t673, .int .i64 a0_1, .int .i64 a0_2] ?_;(with_reducible refine (a2z.calls k t672 t673 a0_1 a0_2 t694 t697 _ A53.out).mono ?_);rintro e w65 ⟨v695,rfl,ho0,hb⟩;refine ⟨_,rfl,?_⟩;have n_:=Zb (Za (Kd.cnz (Kd.cjz (ok':=fun k_=>(w.heap.size<=k_)/\k_≠gb669/\k_≠gb677) ho0 (fun k_ hk_=>⟨(Zt (adz bl_) hk_),(Kd.freshB (g:=gb669) (o:= .cells #[.int .i64 a0_0, .int .i64 a0_1, .int .i64 a0_2] 23 (0,0)) kb_ k_ hk_),(Kd.freshB (g:=gb677) (o:= .cells #[.string t671, .int .i64 t672, .int .u32 t673, .int .u8 t674, .int .i64 t675] 79 (0,0)) kb_ k_ hk_)⟩)) (adz bl_))) (Zb (Za (aBz (g:=gb669) (o:= .cells #[.int .i64 a0_0, .int .i64 a0_1, .int .i64 a0_2] 23 (0,0)) kb_ hb)) (Zb (Za (aBz (g:=gb677) (o:= .cells #[.string t671, .int .i64 t672, .int .u32 t673, .int .u8 t674, .int .i64 t675] 79 (0,0)) kb_ hb)) (hs_ HB hb)));clear BK669 BK677 HB;obtain ⟨HO696,BK669,BK677,HB⟩:=n_;clear hb ho0;obtain ⟨_,_,_,_,_,_⟩:=bc3_ BK669.out;obtain ⟨Ao68,co68,eo68⟩:=Kd.cTz HO696.out;subst eo68;have q67:(a0_1:Int)<=((t694.length:Int):Int):=Zc as_;obtain ⟨i067,hi067,_,hsz67,_⟩:=info_parts info57;have hroom67:t694.length<=co68:=(Kd.bLz HO696.out).2.1;have hC67:Kd.F (Kd.slice 3 (Kd.int .i64)) _ _ Ao68 t694.length t694:=(Kd.V_at (base:=w.heap.size) (Kd.N_V HO696.out)).2.2;have q067:(0:Int)<=(a0_1:Int):=Zc as_;have hcut67:=elz (P:=Tryz.prog) 68 57 .i64 Tryz.underlying68 hi067 1 hsz67 Ao68 t694.length co68 a0_1 q067 q67;have hr67:=Kd.F_cut (m:=(a0_1:Int).toNat) (c:=co68) hC67 (by omega) hroom67;obtain ⟨A67,hA67⟩: ∃Aq_,Aq_=(if co68=(a0_1:Int).toNat then Ao68 else (Ao68:Option Addr).map (·.add ((a0_1:Int).toNat*1))):=⟨_,rfl⟩;obtain ⟨c67,hc67⟩: ∃cq_,cq_=co68 - (a0_1:Int).toNat:=⟨_,rfl⟩;have hy67:y698.length=t694.length - (a0_1:Int).toNat:=(by rw [Ny698.out,List.length_drop] <;>omega);rw [show (t694).drop (a0_1:Int).toNat=y698 from Ny698.out.symm] at hr67;replace hr67:Kd.F (Kd.slice 3 (Kd.int .i64)) _ _ A67 y698.length y698:=(by rw [hA67];exact hr67);rw [<-hy67, <-hA67, <-hc67] at hcut67;have HO702:=Za (show Kd.V (Kd.slice 3 (Kd.int .i64)) 57 _ w.heap.size _ (.slice A67 y698.length c67) y698 from Kd.V_mk (by rw [hy67,hc67];exact Nat.sub_le_sub_right hroom67 _) hr67);have HC702:=Za (show y698.length<=c67 from by rw [hy67,hc67];exact Nat.sub_le_sub_right hroom67 _);clear hr67 hC67 hroom67 hi067 hsz67 hc67;have KY67:=Za hy67;have KA67:=Za hA67;clear hy67 hA67;replace q67:=Zz q67))
     go_ret2;exact ⟨_,er_,vm_ HO702,bl_⟩
def aWz.l0:Nat->List Int->List Int->List Int->Int->Option (List Int×Bool)
 |0,_,_,_,_=>none
 |k+1,x0,x1,x6,x7=>if x7<(x0.length:Int) then (if 0<=x7 then (if x7<(x1.length:Int) then (if x6.length<140737488355328 then (aWz.l0 k x0 x1 (x6++ [Go.bits .xor .u8 (rd x0 x7) (rd x1 x7)]) (wrap64 (x7+1))) else (none)) else (none)) else (none)) else (some (x6,true))
def aWz.f (k:Nat) (l0:List Int) (l1:List Int):Option (List Int×Bool):=if (l0.length:Int)=(l1.length:Int) then (aWz.l0 k l0 l1 ([] :List Int) 0) else (some (([] :List Int),false))
def aWz.T7:Bool×List (List Nat×List Nat):=(true, [([], []),([], []),([], []),([1,2], [1,2]),([3], [3]),([], []),([], []),([5,6], [5,6]),([7], [7]),([4,8], [4,8]),([9], [9]),([0,10], [0,10]),([11,11,0,1,2,3,4,5,6,7,8,9,10,11], [0,11])])
def aWz.B7:List Nat:= [0,0,0,6,14,0,0,96,224,510,1022,2047,4095]
theorem aWz.tab7:rtab .any (opsOf Tryz.f70 7)=aWz.T7:=by kernel_rfl
theorem aWz.bits7:waitsOk aWz.T7.2 aWz.B7=true:=by kernel_rfl
theorem aWz.calls (k : Nat) (A0 : Option Addr) (c0 : Nat) (l0 : List Int) (A1 : Option Addr) (c1 : Nat) (l1 : List Int) (r1 : List Int) (r2 : Bool) (w : World) (hr0 : Kd.C (Kd.int .u8) w A0 l0.length l0) (hc0 : l0.length <= c0) (hr1 : Kd.C (Kd.int .u8) w A1 l1.length l1) (hc1 : l1.length <= c1) (h : aWz.f k l0 l1 = some (r1, r2)) :
  Calls Tryz.prog 70 #[.slice A0 l0.length c0, .slice A1 l1.length c1] w fun e w'=> ∃v0_:Value,e= .returned (.tuple #[v0_, .bool r2])/\Kd.R (Kd.int .u8) 5 w' w.heap.size (fun _=>True) v0_ r1/\Below w.heap.size w w':=by
 have HR0:=Za hr0;have HC0:=Za hc0;clear hr0 hc0;have HR1:=Za hr1;have HC1:=Za hc1;clear hr1 hc1;have HB:=Za (Zw w.heap.size w);have H:=h;clear h;unfold aWz.f at H;by_cases c3:(l0.length:Int)=(l1.length:Int)
 rotate_left
 ·rw [Yb c3] at H;have c3b0:((l0.length:Int)==(l1.length:Int))=false:=Zq c3;have c3b1:((l0.length:Int) !=(l1.length:Int))=true:=Yd c3
  have c3b2:(l0.length==l1.length)=false:=by first|simpa using c3|(simp at c3|-;omega)
  simp only [Zx,Zy] at H;obtain ⟨rfl,rfl⟩:=H;go_enter Tryz.func70,Tryz.ntmps70;go_wp2;go_ret2;exact ⟨_,er_,nl_,bl_⟩
 rw [Ya c3] at H;have c3b0:((l0.length:Int)==(l1.length:Int))=true:=Ye c3;have c3b1:((l0.length:Int) !=(l1.length:Int))=false:=Yc c3
 have c3b2:(l0.length==l1.length)=true:=by first|simpa using c3|(simp at c3|-;omega)
 clear c3;have H':=Za H;clear H;go_enter Tryz.func70,Tryz.ntmps70;go_wp2
 go_loopg [6,7] k (fun kq v6 v7 w'=> ∃(x6_1:List Int) (x7_1:Int),v7= .int .i64 x7_1/\Aside0 (aWz.l0 kq l0 l1 x6_1 x7_1=some (r1,r2))/\Aside0 (kq<=k)/\Aside0 (Kd.R (Kd.int .u8) 5 w' w.heap.size (fun _=>True) v6 x6_1)/\Aside0 (Below w.heap.size w w'))
 case atStart=>exact ⟨(([] :List Int)),(0),sd_,H',⟨Zv _⟩,⟨nl_⟩,⟨bl_⟩⟩
 clear H';clear c3b0 c3b1 c3b2;obtain ⟨x6_1,x7_1,rfl,HA,HK1,HO_6,HB⟩:=hrel;rcases gk with _|k1
 ·exact Yf HA.out (by simp [aWz.l0])
 have H:=HA.out;clear HA;simp only [aWz.l0] at H;by_cases c4:x7_1<(l0.length:Int)
 rotate_left
 ·rw [Yb c4] at H;have c4b0:=Ze c4;clear c4;simp only [Zx,Zy] at H;obtain ⟨rfl,rfl⟩:=H;go_wp2;go_ret2;exact ⟨_,er_,xd_ HO_6.out,bl_⟩
 rw [Ya c4] at H;have c4b0:=Zd c4;clear c4;by_cases c5:0<=x7_1
 rotate_left
 ·rw [Yb c5] at H;exact Yf H (by simp)
 rw [Ya c5] at H;have c5b0:=Zd c5;clear c5;by_cases c6:x7_1<(l1.length:Int)
 rotate_left
 ·rw [Yb c6] at H;exact Yf H (by simp)
 rw [Ya c6] at H;have c6b0:=Zd c6;clear c6;by_cases c7:x6_1.length<140737488355328
 rotate_left
 ·rw [Yb c7] at H;exact Yf H (by simp)
 rw [Ya c7] at H;have LMc7:=Za c7;clear c7;obtain ⟨y705,hy705⟩: ∃y_:List Int,y_=(x6_1++ [Go.bits .xor .u8 (rd l0 x7_1) (rd l1 x7_1)]):=⟨_,rfl⟩
 first|rw [Zl, <-hy705] at H|rw [<-hy705] at H
 (try dsimp only at H)
 have Ny705:=Za hy705;clear hy705;have H':=Za H;clear H
 try go_wp2
 have n_:=Zb (Za (Kd.b5z HO_6.out)) (Za (bTz HB.out));clear HO_6 HB;obtain ⟨HO_6,HB⟩:=n_;have p703:0<=(x7_1:Int):=Zc as_;have q703:x7_1<(l0.length:Int):=Zc as_;obtain ⟨ad703,e703,hx703_0⟩:=Kd.boz HR0.out x7_1 p703 q703;have hw703_0:=hx703_0;cases e703
 replace hx703_0:=(HB.out.cell (Zj w _ hx703_0)).trans hx703_0;replace p703:=Zz p703;replace q703:=Zz q703;have p704:0<=(x7_1:Int):=Zc as_;have q704:x7_1<(l1.length:Int):=Zc as_;obtain ⟨ad704,e704,hx704_0⟩:=Kd.boz HR1.out x7_1 p704 q704;have hw704_0:=hx704_0;cases e704
 replace hx704_0:=(HB.out.cell (Zj w _ hx704_0)).trans hx704_0;replace p704:=Zz p704;replace q704:=Zz q704;refine bPz (n:=13) (S:=fun w'=>w'.cell? (ad703.add (x7_1).toNat)=some (.int .u8 (rd l0 x7_1))/\w'.cell? (ad704.add (x7_1).toNat)=some (.int .u8 (rd l1 x7_1))) (ds:= []) (bA 13 0) kr_ rfl rfl ⟨((HB.out.cell (Zj w _ hw703_0)).trans hw703_0),((HB.out.cell (Zj w _ hw704_0)).trans hw704_0)⟩ (fun hHeld=> ?_);refine cdz aWz.tab7 aWz.bits7 (fun HT_ HW_=> ?_);generalize wr.drew=w8 at HO_6 HB hx703_0 hx704_0 hHeld|-;refine pv_ 0 19 1 HT_ ?_;refine pv_ 1 20 3 HT_ ?_;refine pv_ 2 21 7 HT_ ?_;refine pv_ 3 22 15 HT_ ?_;refine pv_ 5 24 47 HT_ ?_;refine pv_ 6 25 111 HT_ ?_;refine pv_ 7 26 239 HT_ ?_;refine tw_ 4 23 255 HT_ HW_ hHeld ?_;refine tw_ 8 27 511 HT_ HW_ hHeld ?_;refine pv_ 9 28 1023 HT_ ?_;refine one_ (i:=10) (N:=some 29) (bA 13 2047) rfl rfl (cbz HT_.out kr_) (by decide) (fun K hK=> ?_);refine cpz (w1:= ?_) (v:= ?_) (by rfl) rfl ?_ ?_
 rotate_left 2
 ·go_simp;constructor
  ·rfl
  ·rfl
 refine hK.out _ _ ⟨(World.cell?_alloc_lt _ _ _ (Zj _ _ (((HB.out.cell (Zj w _ hw703_0)).trans hw703_0)))).trans (((HB.out.cell (Zj w _ hw703_0)).trans hw703_0)),(World.cell?_alloc_lt _ _ _ (Zj _ _ (((HB.out.cell (Zj w _ hw704_0)).trans hw704_0)))).trans (((HB.out.cell (Zj w _ hw704_0)).trans hw704_0))⟩ (fun hHeld=> ?_);clear hK K;refine norm_ (a':= ?_) ?_ ?_;rotate_left
 ·show Act.put _ (some 29) _=_;simp only [Act.put,Zg,Zh,Zi,i64_w,i32_w];rfl
 refine one_ (i:=11) (N:=some 30) (bA 13 4095) rfl rfl (cbz HT_.out kr_) (by decide) (fun K hK=> ?_);refine Kd.duz (Kd.int .u8) (w0:=w) w.heap.size (by rfl) (.tmp 19) (.tmp 29) 34 5 (.int .u8 0) 1 rfl Tryz.underlying34 info5 rfl (by decide) (by omega) u6 x6_1 (Go.bits .xor .u8 (rd l0 x7_1) (rd l1 x7_1)) [.int .u8 (Go.bits .xor .u8 (rd l0 x7_1) (rd l1 x7_1))] (fun _=>True) (fun _=>False) rfl rfl ?aP (fun _ hk=>hk.elim) ?aF ?aO ?aB ?aS ?aL ?_
 (case aP=>exact rfl)
 (case aB=>exact bl_)
 (case aF=>exact (fun _ _=>trivial))
 (case aO=>exact (xd_ HO_6.out))
 (case aS=>exact (adz bl_))
 (case aL=>have:=LMc7.out;omega)
 intro v706 w9 ho hb hg hat;rw [<-Ny705.out] at ho;have n_:=Zb (Za (hb)) (Za (ho));clear HB HO_6;obtain ⟨HB,HO707⟩:=n_;clear ho hb hg hat;refine hK.out _ _ ⟨((HB.out.cell (Zj w _ hw703_0)).trans hw703_0),((HB.out.cell (Zj w _ hw704_0)).trans hw704_0)⟩ (fun hHeld=> ?_);clear hK K;refine norm_ (a':= ?_) ?_ ?_;rotate_left
 ·show Act.put _ (some 30) _=_;simp only [Act.put,Zg,Zh,Zi,i64_w,i32_w];rfl
 refine pv_ 12 6 8191 HT_ ?_;refine done_ (cCz HT_.out kr_) ?_
 try go_wp2
 go_roundg k1
 case measure=>have:=HK1.out;omega
 case rel=>exact ⟨(y705),(wrap64 (x7_1+1)),sd_,H',⟨by have:=HK1.out;omega⟩,⟨xd_ HO707.out⟩,⟨bl_⟩⟩
end Go.Proofs.Xc
end
