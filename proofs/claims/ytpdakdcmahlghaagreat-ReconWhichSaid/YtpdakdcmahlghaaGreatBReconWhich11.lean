-- Joined texts of this work (wip/tools/bundle.py).
import Derived.Test.YtpdakdcmahlghaaGreatBReconWhich10
set_option maxHeartbeats 8000000
set_option maxRecDepth 100000
set_option linter.unusedVariables false
set_option linter.unusedSimpArgs false
section
namespace Go.Proofs.Xc
open Go.RowKit Go.Proofs.Pw Go.Proofs.Pl Go.Proofs.Pm Tryz
attribute [local go_sem] a7z a8z bgz bhz aVz aWz a9z baz
def aCz.l0:Nat->Int->Int->List Int->Int->Option (List Int)
 |0,_,_,_,_=>none
 |k+1,x0,x1,x5,x6=>if x6<x1 then (if x5.length<17592186044416 then (aCz.l0 k x0 x1 (x5++ [wrap64 (x0+x6)]) (wrap64 (x6+1))) else (none)) else (some x5)
def aCz.f (k:Nat) (a0:Int) (a1:Int):Option (List Int):=aCz.l0 k a0 a1 ([] :List Int) 0
theorem aCz.a6z: ∀k,(∀y0 y1 y2 y3,LeO (aCz.l0 k y0 y1 y2 y3) (aCz.l0 (k+1) y0 y1 y2 y3))
 |0=>fun _ _ _ _ r h=>by simp [aCz.l0] at h
 |k+1=>by
  have a0:=aCz.a6z k
  ·intro y0 y1 y2 y3;unfold aCz.l0
   repeat' with_reducible first|apply a0|apply Yg|apply Yh|apply Yi|refine Yj ?_ fun _=>?_
theorem aCz.mono: ∀a0 a1 k,LeO (aCz.f k a0 a1) (aCz.f (k+1) a0 a1):=by
 intro a0 a1 k;have b0:=aCz.a6z k;unfold aCz.f
 repeat' with_reducible first|apply b0|apply Yg|apply Yh|apply Yi|refine Yj ?_ fun _=>?_
theorem aCz.calls (k:Nat) (a0 a1:Int) (r:List Int) (w:World) (h:aCz.f k a0 a1=some r):
  Calls prog 131 #[.int .i64 a0, .int .i64 a1] w fun e w'=> ∃k0:Value,e= .returned (k0)/\Kd.R (Kd.int .i64) 3 w' w.heap.size (fun _=>True) k0 r/\Below w.heap.size w w':=by
 have HB:=Za (Zw w.heap.size w);have H:=h;clear h;unfold aCz.f at H;have H':=Za H;clear H;go_enter func131,ntmps131;go_wp2
 go_loopg [5,6] k (fun kq v5 v6 w'=> ∃(d0:List Int) (b0:Int),v6= .int .i64 b0/\Aside0 (aCz.l0 kq a0 a1 d0 b0=some r)/\Aside0 (kq<=k)/\Aside0 (Kd.R (Kd.int .i64) 3 w' w.heap.size (fun _=>True) v5 d0)/\Aside0 (Below w.heap.size w w'))
 case atStart=>exact ⟨(([] :List Int)),(0),sd_,H',⟨Zv _⟩,⟨nl_⟩,⟨bl_⟩⟩
 clear H';obtain ⟨d0,b0,rfl,HA,n0,e0,HB⟩:=hrel;rcases gk with _|k1
 ·exact Yf HA.o (by simp [aCz.l0])
 have H:=HA.o;clear HA;simp only [aCz.l0] at H;by_cases c3:b0<a1
 rotate_left
 ·rw [Yb c3] at H;have j0:=Ze c3;clear c3;obtain rfl:=Zn H;go_wp2;go_ret;exact ⟨_,er_,xd_ e0.o,bl_⟩
 rw [Ya c3] at H;have j0:=Zd c3;clear c3;obtain ⟨i0,H⟩:=ij_ H;obtain ⟨h0,c0⟩: ∃y_:List Int,y_=(d0++ [wrap64 (a0+b0)]):=⟨_,rfl⟩
 first|rw [Zl, <-c0] at H|rw [<-c0] at H
 (try dsimp only at H)
 have g0:=Za c0;clear c0;have H':=Za H;clear H
 go_wp2_with (first|((with_reducible refine amz (b:= .append) (xs:= #[.tmp 12, .tmp 16]) rfl ?_);at_builtin;refine Kd.brz (Kd.int .i64) (w0:=w) w.heap.size rfl (.tmp 12) (.tmp 16) 57 3 (.int .i64 0) 8 rfl underlying57 info3 rfl (by decide) (by omega) u5 d0 (wrap64 (a0+b0)) [.int .i64 (wrap64 (a0+b0))] (fun _=>True) (fun _=>False) rfl rfl rfl (fun _ hk=>hk.elim) (fun _ _=>trivial) (xd_ e0.o) bl_ (adz bl_) (by have:=i0.o;omega) ?_;intro o0 w5 ho hb hg hat;rw [<-g0.o] at ho;have n_:=Zb (Za (hb)) (Za (ho));clear HB e0;obtain ⟨HB,f0⟩:=n_;clear ho hb hg hat))
 go_roundg k1
 case measure=>have:=n0.o;omega
 case rel=>exact ⟨(h0),(wrap64 (b0+1)),sd_,H',⟨by have:=n0.o;omega⟩,⟨xd_ f0.o⟩,⟨bl_⟩⟩
def bcz.f (k:Nat) (a0 a1 a2:Int) (a3:Int):Option ((List (List Int))×Bool):=(bkz.f a2 a3).bind fun t321=>(if t321=true then ((aCz.f k 0 a3).bind fun t322=>((aCz.f k a3 a2).bind fun t325=>((ajz.f k a0 a1 t322 t325).bind fun bt328=>(some (bt328.1,bt328.2))))) else (some (([] :List (List Int)),false)))
theorem bcz.mono: ∀a0 a1 a2 a3 k,LeO (bcz.f k a0 a1 a2 a3) (bcz.f (k+1) a0 a1 a2 a3):=by
 intro a0 a1 a2 a3 k;unfold bcz.f
 repeat' with_reducible first|apply ajz.mono|apply aCz.mono|apply Yg|apply Yh|apply Yi|refine Yj ?_ fun _=>?_
theorem bcz.calls (k:Nat) (a0 a1 a2 a3:Int) (r1:List (List Int)) (r2:Bool) (w:World) (h:bcz.f k a0 a1 a2 a3=some (r1,r2)):
  Calls prog 84 #[.int .i64 a0, .int .u32 a1, .int .i64 a2, .int .i64 a3] w fun e w'=> ∃r0:Value,e= .returned (.tuple #[r0, .bool r2])/\Kd.S (Kd.slice 3 (Kd.int .i64)) 57 w' w.heap.size (fun _=>True) r0 r1/\Below w.heap.size w w':=by
 have HB:=Za (Zw w.heap.size w);have H:=h;clear h;unfold bcz.f at H;obtain ⟨q0,A5,H⟩:=ob_ H
 (try dsimp only at H)
 by_cases c6:q0=true
 rotate_left
 ·replace c6:=Zr c6;subst c6;rw [Yb (show¬(false=true) by decide)] at H;simp only [Zx,Zy] at H;obtain ⟨rfl,rfl⟩:=H;go_enter func84,ntmps84
  go_wp2_with (first|((with_reducible refine aaz (f:=129) rfl ?_);refine gl_ (some 12) func129 #[.int .i64 a2, .int .i64 a3] ?_;(with_reducible refine (bkz.calls a2 a3 false _ A5.o).mono ?_);rintro e w' ⟨rfl,⟨nd,rfl⟩⟩;refine ⟨_,rfl,?_⟩))
  go_ret2;exact ⟨_,er_,nl_,bl_⟩
 subst c6;rw [Ya rfl] at H;obtain ⟨e0,A7,H⟩:=ob_ H
 (try dsimp only at H)
 obtain ⟨f0,A8,H⟩:=ob_ H
 (try dsimp only at H)
 obtain ⟨⟨o0,h0⟩,A9,H⟩:=ob_ H
 (try dsimp only at H)
 simp only [Zx,Zy] at H;obtain ⟨rfl,rfl⟩:=H;go_enter func84,ntmps84
 go_wp2_with (first|((with_reducible refine aaz (f:=129) rfl ?_);refine gl_ (some 12) func129 #[.int .i64 a2, .int .i64 a3] ?_;(with_reducible refine (bkz.calls a2 a3 true _ A5.o).mono ?_);rintro e w' ⟨rfl,⟨nd,rfl⟩⟩;refine ⟨_,rfl,?_⟩)|((with_reducible refine aaz (f:=131) rfl ?_);refine gl_ (some 17) func131 #[.int .i64 0, .int .i64 a3] ?_;(with_reducible refine (aCz.calls k 0 a3 e0 _ A7.o).mono ?_);rintro e z0 ⟨v0,rfl,d0,hb⟩;refine ⟨_,rfl,?_⟩;have n_:=Zb (Za (Kd.bCz d0 (adz bl_))) (hs_ HB hb);clear HB;obtain ⟨b0,HB⟩:=n_;clear hb d0)|((with_reducible refine aaz (f:=131) rfl ?_);refine gl_ (some 20) func131 #[.int .i64 a3, .int .i64 a2] ?_;(with_reducible refine (aCz.calls k a3 a2 f0 _ A8.o).mono ?_);rintro e w0 ⟨t0,rfl,d0,hb⟩;refine ⟨_,rfl,?_⟩;have n_:=Zb (Za (Kd.dNz (xd_ b0.o) (Kd.cbz d0) hb)) (Zb (Za (Kd.bCz (Kd.R_new' d0 (Kd.R_lt (xd_ b0.o))) (adz bl_))) (hs_ HB hb));clear b0 HB;obtain ⟨b0,c0,HB⟩:=n_;clear hb d0;obtain ⟨j0,i0,k0⟩:=Kd.aQz b0.o;subst k0;obtain ⟨p0,l0,n0⟩:=Kd.aQz c0.o;subst n0)|((with_reducible refine aaz (f:=130) rfl ?_);refine gl_ (some 21) func130 #[.int .i64 a0, .int .u32 a1, .slice j0 e0.length i0, .slice p0 f0.length l0] ?_;(with_reducible refine (ajz.calls k a0 a1 _ _ e0 _ _ f0 o0 h0 _ (xd_ (Kd.aHz b0.o).2.2) ((Kd.aHz b0.o).2.1) (xd_ (Kd.aHz c0.o).2.2) ((Kd.aHz c0.o).2.1) A9.o).mono ?_);rintro e y0 ⟨u0,rfl,d0,hb⟩;refine ⟨_,rfl,?_⟩;have n_:=Zb (Za (Kd.ckz (xd_ b0.o) hb)) (Zb (Za (Kd.ckz (xd_ c0.o) hb)) (Zb (Za (Kd.cMz (Kd.S_new' (Kd.S_new' d0 (Kd.R_lt (xd_ b0.o))) (Kd.R_lt (xd_ c0.o))) (adz bl_))) (hs_ HB hb)));clear b0 c0 HB;obtain ⟨b0,c0,g0,HB⟩:=n_;clear hb d0))
 go_ret2;exact ⟨_,er_,sm_ g0,bl_⟩
def bxz.f (k:Nat) (a0 a1:Int) (a2:Int):Option (Int):=(axz.f k a0).bind fun t332=>(if (wrap64 (t332 - 1))=0 then (none) else (if (Int.tmod a2 (wrap64 (t332 - 1)))<0 then ((aOz.f k a0 a1 2 (wrap64 ((Int.tmod a2 (wrap64 (t332 - 1)))+(wrap64 (t332 - 1))))).bind fun t333=>(some t333)) else ((aOz.f k a0 a1 2 (Int.tmod a2 (wrap64 (t332 - 1)))).bind fun t334=>(some t334))))
theorem bxz.mono: ∀a0 a1 a2 k,LeO (bxz.f k a0 a1 a2) (bxz.f (k+1) a0 a1 a2):=by
 intro a0 a1 a2 k;unfold bxz.f
 repeat' with_reducible first|apply aOz.mono|apply axz.mono|apply Yg|apply Yh|apply Yi|refine Yj ?_ fun _=>?_
theorem bxz.calls (k:Nat) (a0 a1 a2 r:Int) (w:World) (h:bxz.f k a0 a1 a2=some r):
  Calls prog 132 #[.int .i64 a0, .int .u32 a1, .int .i64 a2] w fun e w'=>e= .returned (.int .i64 r)/\Drawn0 w w':=by
 have H:=h;clear h;unfold bxz.f at H;obtain ⟨b0,A4,H⟩:=ob_ H
 (try dsimp only at H)
 by_cases c5:(wrap64 (b0 - 1))=0
 ·rw [Ya c5] at H;exact Yf H (by simp)
 ·rw [Yb c5] at H;have g0:((wrap64 (b0 - 1))==0)=false:=Zq c5;have f0:((wrap64 (b0 - 1)) !=0)=true:=Yd c5;by_cases c6:(Int.tmod a2 (wrap64 (b0 - 1)))<0
  ·rw [Ya c6] at H;have c0:=Zd c6;clear c6;obtain ⟨e0,A7,H⟩:=ob_ H
   (try dsimp only at H)
   obtain rfl:=Zn H;go_enter func132,ntmps132
   go_wp2_with (first|((with_reducible refine aaz (f:=156) rfl ?_);refine gl_ (some 9) func156 #[.int .i64 a0] ?_;(with_reducible refine (axz.calls k a0 b0 _ A4.o).mono ?_);rintro e w' ⟨rfl,⟨nd,rfl⟩⟩;refine ⟨_,rfl,?_⟩)|((with_reducible refine aaz (f:=168) rfl ?_);refine gl_ (some 22) func168 #[.int .i64 a0, .int .u32 a1, .int .i64 2, .int .i64 (wrap64 ((Int.tmod a2 (wrap64 (b0 - 1)))+(wrap64 (b0 - 1))))] ?_;(with_reducible refine (aOz.calls k a0 a1 2 (wrap64 ((Int.tmod a2 (wrap64 (b0 - 1)))+(wrap64 (b0 - 1)))) e0 _ A7.o).mono ?_);rintro e w' ⟨rfl,⟨nd,rfl⟩⟩;refine ⟨_,rfl,?_⟩))
   go_ret;exact ⟨sd_,dn_⟩
  ·rw [Yb c6] at H;have c0:=Ze c6;clear c6;obtain ⟨d0,A8,H⟩:=ob_ H
   (try dsimp only at H)
   obtain rfl:=Zn H;go_enter func132,ntmps132
   go_wp2_with (first|((with_reducible refine aaz (f:=156) rfl ?_);refine gl_ (some 9) func156 #[.int .i64 a0] ?_;(with_reducible refine (axz.calls k a0 b0 _ A4.o).mono ?_);rintro e w' ⟨rfl,⟨nd,rfl⟩⟩;refine ⟨_,rfl,?_⟩)|((with_reducible refine aaz (f:=168) rfl ?_);refine gl_ (some 22) func168 #[.int .i64 a0, .int .u32 a1, .int .i64 2, .int .i64 (Int.tmod a2 (wrap64 (b0 - 1)))] ?_;(with_reducible refine (aOz.calls k a0 a1 2 (Int.tmod a2 (wrap64 (b0 - 1))) d0 _ A8.o).mono ?_);rintro e w' ⟨rfl,⟨nd,rfl⟩⟩;refine ⟨_,rfl,?_⟩))
   go_ret;exact ⟨sd_,dn_⟩
mutual
def arz.l0:Nat->Int->Int->Int->Int->List (List Int)->Int->Option ((List (List Int))×Bool)
 |0,_,_,_,_,_,_=>none
 |k+1,x0,x1,x2,x3,x10,x11=>if x11<x3 then (arz.l1 k x0 x1 x2 x3 x10 x11 ([] :List Int) 0) else (some (x10,true))
def arz.l1:Nat->Int->Int->Int->Int->List (List Int)->Int->List Int->Int->Option ((List (List Int))×Bool)
 |0,_,_,_,_,_,_,_,_=>none
 |k+1,x0,x1,x2,x3,x10,x11,x12,x13=>if x13<x2 then ((bxz.f k x0 x1 (wrap64 (x11*x13))).bind fun t336=>(if x12.length<17592186044416 then (arz.l1 k x0 x1 x2 x3 x10 x11 (x12++ [t336]) (wrap64 (x13+1))) else (none))) else (if x10.length<5864062014805 then (arz.l0 k x0 x1 x2 x3 (x10++ [x12]) (wrap64 (x11+1))) else (none))
end
def arz.f (k:Nat) (a0 a1 a2:Int) (a3:Int):Option ((List (List Int))×Bool):=(bkz.f a2 a3).bind fun t335=>(if t335=true then (arz.l0 k a0 a1 a2 a3 ([] :List (List Int)) 0) else (some (([] :List (List Int)),false)))
theorem arz.a6z: ∀k,(∀y0 y1 y2 y3 y4 y5,LeO (arz.l0 k y0 y1 y2 y3 y4 y5) (arz.l0 (k+1) y0 y1 y2 y3 y4 y5))/\(∀y0 y1 y2 y3 y4 y5 y6 y7,LeO (arz.l1 k y0 y1 y2 y3 y4 y5 y6 y7) (arz.l1 (k+1) y0 y1 y2 y3 y4 y5 y6 y7))
 |0=>⟨fun _ _ _ _ _ _ r h=>by simp [arz.l0] at h,fun _ _ _ _ _ _ _ _ r h=>by simp [arz.l1] at h⟩
 |k+1=>by
  obtain ⟨a0,b0⟩:=arz.a6z k;refine ⟨?_,?_⟩
  ·intro y0 y1 y2 y3 y4 y5;unfold arz.l0
   repeat' with_reducible first|apply a0|apply b0|apply bxz.mono|apply Yg|apply Yh|apply Yi|refine Yj ?_ fun _=>?_
  ·intro y0 y1 y2 y3 y4 y5 y6 y7;unfold arz.l1
   repeat' with_reducible first|apply a0|apply b0|apply bxz.mono|apply Yg|apply Yh|apply Yi|refine Yj ?_ fun _=>?_
theorem arz.mono: ∀a0 a1 a2 a3 k,LeO (arz.f k a0 a1 a2 a3) (arz.f (k+1) a0 a1 a2 a3):=by
 intro a0 a1 a2 a3 k;obtain ⟨b0,c0⟩:=arz.a6z k;unfold arz.f
 repeat' with_reducible first|apply b0|apply c0|apply bxz.mono|apply Yg|apply Yh|apply Yi|refine Yj ?_ fun _=>?_
theorem arz.calls (k:Nat) (a0 a1 a2 a3:Int) (r1:List (List Int)) (r2:Bool) (w:World) (h:arz.f k a0 a1 a2 a3=some (r1,r2)):
  Calls prog 85 #[.int .i64 a0, .int .u32 a1, .int .i64 a2, .int .i64 a3] w fun e w'=> ∃F0:Value,e= .returned (.tuple #[F0, .bool r2])/\Kd.S (Kd.slice 3 (Kd.int .i64)) 57 w' w.heap.size (fun _=>True) F0 r1/\Below w.heap.size w w':=by
 have HB:=Za (Zw w.heap.size w);have H:=h;clear h;unfold arz.f at H;obtain ⟨D0,A5,H⟩:=ob_ H
 (try dsimp only at H)
 by_cases c6:D0=true
 rotate_left
 ·replace c6:=Zr c6;subst c6;rw [Yb (show¬(false=true) by decide)] at H;simp only [Zx,Zy] at H;obtain ⟨rfl,rfl⟩:=H;go_enter func85,ntmps85
  go_wp2_with (first|((with_reducible refine aaz (f:=129) rfl ?_);refine gl_ (some 16) func129 #[.int .i64 a2, .int .i64 a3] ?_;(with_reducible refine (bkz.calls a2 a3 false _ A5.o).mono ?_);rintro e w' ⟨rfl,⟨nd,rfl⟩⟩;refine ⟨_,rfl,?_⟩))
  go_ret2;exact ⟨_,er_,nl_,bl_⟩
 subst c6;rw [Ya rfl] at H;have H':=Za H;clear H;go_enter func85,ntmps85
 go_wp2_with (first|((with_reducible refine aaz (f:=129) rfl ?_);refine gl_ (some 16) func129 #[.int .i64 a2, .int .i64 a3] ?_;(with_reducible refine (bkz.calls a2 a3 true _ A5.o).mono ?_);rintro e w' ⟨rfl,⟨nd,rfl⟩⟩;refine ⟨_,rfl,?_⟩))
 go_loopg [10,11] k (fun kq M0 L0 w'=> ∃(e0:List (List Int)) (d0:Int),L0= .int .i64 d0/\Aside0 (arz.l0 kq a0 a1 a2 a3 e0 d0=some (r1,r2))/\Aside0 (kq<=k)/\Aside0 (Kd.S (Kd.slice 3 (Kd.int .i64)) 57 w' w.heap.size (fun _=>True) M0 e0)/\Aside0 (Below w.heap.size w w'))
 case atStart=>exact ⟨(([] :List (List Int))),(0),sd_,H',⟨Zv _⟩,⟨nl_⟩,⟨bl_⟩⟩
 clear H';obtain ⟨e0,d0,rfl,HA,z0,b0,HB⟩:=hrel;rcases gk with _|k1
 ·exact Yf HA.o (by simp [arz.l0])
 have H:=HA.o;clear HA;simp only [arz.l0] at H;by_cases c7:d0<a3
 rotate_left
 ·rw [Yb c7] at H;have v0:=Ze c7;clear c7;simp only [Zx,Zy] at H;obtain ⟨rfl,rfl⟩:=H;go_wp2;go_ret2;exact ⟨_,er_,xd_ b0.o,bl_⟩
 rw [Ya c7] at H;have v0:=Zd c7;clear c7;have H':=Za H;clear H;go_wp2
 go_loopg [12,13] k1 (fun kq G0 K0 w'=> ∃(c0:List Int) (f0:Int),K0= .int .i64 f0/\Aside0 (arz.l1 kq a0 a1 a2 a3 e0 d0 c0 f0=some (r1,r2))/\Aside0 (kq<=k1)/\Aside0 (Kd.S (Kd.slice 3 (Kd.int .i64)) 57 w' w.heap.size (fun k_=>some k_≠(G0:Value).ownBlock) u10 e0)/\Aside0 (Kd.R (Kd.int .i64) 3 w' w.heap.size (fun _=>True) G0 c0)/\Aside0 (Below w.heap.size w w'))
 case atStart=>exact ⟨(([] :List Int)),(0),sd_,H',⟨Zv _⟩,⟨sm_ b0⟩,⟨nl_⟩,⟨bl_⟩⟩
 clear H';clear v0;obtain ⟨c0,f0,rfl,HA,y0,b0,g0,HB⟩:=hrel;rcases gk with _|k2
 ·exact Yf HA.o (by simp [arz.l1])
 have H:=HA.o;clear HA;simp only [arz.l1] at H;by_cases c8:f0<a2
 ·rw [Ya c8] at H;have B0:=Zd c8;clear c8;obtain ⟨j0,A9,H⟩:=ob_ H
  (try dsimp only at H)
  obtain ⟨u0,H⟩:=ij_ H;obtain ⟨C0,h0⟩: ∃y_:List Int,y_=(c0++ [j0]):=⟨_,rfl⟩
  first|rw [Zl, <-h0] at H|rw [<-h0] at H
  (try dsimp only at H)
  have n0:=Za h0;clear h0;have H':=Za H;clear H
  go_wp2_with (first|((with_reducible refine aaz (f:=132) rfl ?_);refine gl_ (some 34) func132 #[.int .i64 a0, .int .u32 a1, .int .i64 (wrap64 (d0*f0))] ?_;(with_reducible refine (bxz.calls k2 a0 a1 (wrap64 (d0*f0)) j0 _ A9.o).mono ?_);rintro e w' ⟨rfl,⟨nd,rfl⟩⟩;refine ⟨_,rfl,?_⟩)|((with_reducible refine amz (b:= .append) (xs:= #[.tmp 28, .tmp 35]) rfl ?_);at_builtin;refine Kd.brz (Kd.int .i64) (w0:=w) w.heap.size rfl (.tmp 28) (.tmp 35) 57 3 (.int .i64 0) 8 rfl underlying57 info3 rfl (by decide) (by omega) u12 c0 j0 [.int .i64 j0] (fun _=>True) (fun _=>False) rfl rfl rfl (fun _ hk=>hk.elim) (fun _ _=>trivial) (xd_ g0.o) bl_ (adz bl_) (by have:=u0.o;omega) ?_;intro I0 O0 ho hb hg hat;rw [<-n0.o] at ho;have n_:=Zb (Za (Kd.cFz (ok:=(fun _=>True)) (sm_ b0) hg hat)) (Zb (Za (hb)) (Za (ho)));clear b0 HB g0;obtain ⟨b0,HB,o0⟩:=n_;clear ho hb hg hat))
  go_roundg k2
  case measure=>have:=z0.o;have:=y0.o;omega
  case rel=>exact ⟨(C0),(wrap64 (f0+1)),sd_,H',⟨by have:=z0.o;have:=y0.o;omega⟩,⟨sm_ b0⟩,⟨xd_ o0.o⟩,⟨bl_⟩⟩
 ·rw [Yb c8] at H;have B0:=Ze c8;clear c8;obtain ⟨p0,H⟩:=ij_ H;obtain ⟨A0,i0⟩: ∃y_:List (List Int),y_=(e0++ [c0]):=⟨_,rfl⟩
  first|rw [Zl, <-i0] at H|rw [<-i0] at H
  (try dsimp only at H)
  have k0:=Za i0;clear i0;have H':=Za H;clear H;obtain ⟨q0,t0,E0⟩:=Kd.aQz g0.o;subst E0
  go_wp2_with (first|((with_reducible refine amz (b:= .append) (xs:= #[.tmp 37, .tmp 39]) rfl ?_);at_builtin;refine Kd.bLz (Kd.slice 3 (Kd.int .i64)) (w0:=w) w.heap.size rfl (.tmp 37) (.tmp 39) 68 57 (.slice none 0 0) 24 rfl underlying68 info57 rfl (by decide) (by omega) u10 e0 c0 [.slice q0 c0.length t0] (fun _=>True) (fun k_=>some k_=(.slice q0 c0.length t0:Value).ownBlock) rfl rfl (Kd.M_row (Kd.aKz (Kd.b5z rfl (Kd.aKz (ok':=fun k_=>((fun _=>True)) k_/\some k_≠(u10:Value).ownBlock) (Kd.bqz (g0.o) (Kd.bFz b0.o) (by decide)) (fun k_ hk=>⟨trivial,hk.2⟩))) (fun _ h_=>h_))) (fun k_ H0=>((Kd.aKz (ok':=fun k_=>((fun _=>True)) k_/\some k_≠(u10:Value).ownBlock) (Kd.bqz (g0.o) (Kd.bFz b0.o) (by decide)) (fun k_ hk=>⟨trivial,hk.2⟩))).1 k_ H0.symm) (fun _ _=>trivial) (sm_ b0) bl_ (adz bl_) (by have:=p0.o;omega) ?_;intro J0 N0 ho hb hg hat;rw [<-k0.o] at ho;have n_:=Zb (Za (hb)) (Za (ho));clear HB b0 g0;obtain ⟨HB,r0⟩:=n_;clear ho hb hg hat))
  go_roundg k2
  case measure=>have:=z0.o;have:=y0.o;omega
  case rel=>exact ⟨(A0),(wrap64 (d0+1)),sd_,H',⟨by have:=z0.o;have:=y0.o;omega⟩,⟨xd_ r0.o⟩,⟨bl_⟩⟩
def bmz.f (a0_0 a0_1:Int) (a0_2:Int):Option (Bool):=(aSz.f a0_0).bind fun bt443=>(if bt443.2.2.2.2.2=true then (if a0_1>=1 then (if a0_1<=8 then (if a0_2>=1 then (some (decide (a0_2<=bt443.2.2.2.2.1))) else (some false)) else (some false)) else (some false)) else (some false))
theorem bmz.calls (f0 h0 i0:Int) (r:Bool) (w:World) (h:bmz.f f0 h0 i0=some r):
 Calls prog 48 #[.agg #[.int .i64 f0, .int .i64 h0, .int .i64 i0]] w fun e w'=>e= .returned (.bool r)/\Below w.heap.size w w':=by
 have z0:=underlying23;have A0:=underlying79;have HB:=Za (Zw w.heap.size w);have H:=h;clear h;unfold bmz.f at H;obtain ⟨⟨k0,o0,p0,n0,q0,l0⟩,A2,H⟩:=ob_ H
 (try dsimp only at H)
 have HH:=Za H;clear H;go_enter func48,ntmps48
 go_wp2_with (first|((with_reducible refine aTz (N:=1) rfl ?_);refine bx_ 1 #[.int .i64 f0, .int .i64 h0, .int .i64 i0] 23 ?_;intro g0 hg w7 e0 hb;have n_:=Zb (hs_ HB hb) (Zb (Za (e0)) (Zb (ag_ HB g0) (ag_ HB g0)));clear HB;obtain ⟨HB,a0,y0,w0⟩:=n_;clear hb e0 hg;obtain ⟨_,_,_,_,_,_⟩:=bc3_ a0.o)|((with_reducible refine aaz (f:=50) rfl ?_);refine gl_ (some 8) func50 #[.int .i64 f0] ?_;(with_reducible refine (aSz.calls f0 k0 o0 p0 n0 q0 l0 _ A2.o).mono ?_);rintro e w9 ⟨rfl,hb⟩;refine ⟨_,rfl,?_⟩;have n_:=Zb (bb_ a0 hb) (hs_ HB hb);clear a0 HB;obtain ⟨a0,HB⟩:=n_;(try clear hb))|((with_reducible refine aTz (N:=3) rfl ?_);refine cgz ?hg (N:=3) ?hd (cs:= #[.string (⟨#[]⟩:ByteArray), .int .i64 0, .int .u32 0, .int .u8 0, .int .i64 0]) (t:=79) ?hr ?_;(case hd=>rfl);(case hg=>rfl);(case hr=>first|(go_simp;done)|(go_simp;rfl));intro b0 hg B0 e0 hb;have n_:=Zb (bb_ a0 hb) (Zb (hs_ HB hb) (Zb (Za (e0)) (Zb (ag_ HB b0) (Zb (ag_ HB b0) (Zb (n1_ a0 b0) (n2_ a0 b0))))));clear a0 HB;obtain ⟨a0,HB,j0,u0,r0,d0,c0⟩:=n_;clear hb e0 hg;have v0:=c0.o;have t0:=d0.o;obtain ⟨_,_,_,_,_,_,_,_,_,_⟩:=bc5_ j0.o;obtain ⟨_,_,_,_,_,_⟩:=bc3_ a0.o))
 all_goals
  go_ret;refine ⟨congrArg (fun b=>Ending.returned (.bool b)) ?_,bl_⟩;have H:=HH.o
  simp_all
 all_goals (rw [Yb (by omega)] at H;simp_all)
def bdz.f (k:Nat) (a0 a1 a2:Int) (a3:Int):Option ((List (List Int))×Bool):=(bkz.f a2 a3).bind fun t343=>(if t343=true then ((aCz.f k a2 a3).bind fun t344=>((aCz.f k 0 a2).bind fun t347=>((ajz.f k a0 a1 t344 t347).bind fun bt350=>(some (bt350.1,bt350.2))))) else (some (([] :List (List Int)),false)))
theorem bdz.mono: ∀a0 a1 a2 a3 k,LeO (bdz.f k a0 a1 a2 a3) (bdz.f (k+1) a0 a1 a2 a3):=by
 intro a0 a1 a2 a3 k;unfold bdz.f
 repeat' with_reducible first|apply ajz.mono|apply aCz.mono|apply Yg|apply Yh|apply Yi|refine Yj ?_ fun _=>?_
theorem bdz.calls (k:Nat) (a0 a1 a2 a3:Int) (r1:List (List Int)) (r2:Bool) (w:World) (h:bdz.f k a0 a1 a2 a3=some (r1,r2)):
  Calls prog 86 #[.int .i64 a0, .int .u32 a1, .int .i64 a2, .int .i64 a3] w fun e w'=> ∃r0:Value,e= .returned (.tuple #[r0, .bool r2])/\Kd.S (Kd.slice 3 (Kd.int .i64)) 57 w' w.heap.size (fun _=>True) r0 r1/\Below w.heap.size w w':=by
 have HB:=Za (Zw w.heap.size w);have H:=h;clear h;unfold bdz.f at H;obtain ⟨h0,A5,H⟩:=ob_ H
 (try dsimp only at H)
 by_cases c6:h0=true
 rotate_left
 ·replace c6:=Zr c6;subst c6;rw [Yb (show¬(false=true) by decide)] at H;simp only [Zx,Zy] at H;obtain ⟨rfl,rfl⟩:=H;go_enter func86,ntmps86
  go_wp2_with (first|((with_reducible refine aaz (f:=129) rfl ?_);refine gl_ (some 12) func129 #[.int .i64 a2, .int .i64 a3] ?_;(with_reducible refine (bkz.calls a2 a3 false _ A5.o).mono ?_);rintro e w' ⟨rfl,⟨nd,rfl⟩⟩;refine ⟨_,rfl,?_⟩))
  go_ret2;exact ⟨_,er_,nl_,bl_⟩
 subst c6;rw [Ya rfl] at H;obtain ⟨e0,A7,H⟩:=ob_ H
 (try dsimp only at H)
 obtain ⟨f0,A8,H⟩:=ob_ H
 (try dsimp only at H)
 obtain ⟨⟨o0,q0⟩,A9,H⟩:=ob_ H
 (try dsimp only at H)
 simp only [Zx,Zy] at H;obtain ⟨rfl,rfl⟩:=H;go_enter func86,ntmps86
 go_wp2_with (first|((with_reducible refine aaz (f:=129) rfl ?_);refine gl_ (some 12) func129 #[.int .i64 a2, .int .i64 a3] ?_;(with_reducible refine (bkz.calls a2 a3 true _ A5.o).mono ?_);rintro e w' ⟨rfl,⟨nd,rfl⟩⟩;refine ⟨_,rfl,?_⟩)|((with_reducible refine aaz (f:=131) rfl ?_);refine gl_ (some 18) func131 #[.int .i64 a2, .int .i64 a3] ?_;(with_reducible refine (aCz.calls k a2 a3 e0 _ A7.o).mono ?_);rintro e z0 ⟨u0,rfl,d0,hb⟩;refine ⟨_,rfl,?_⟩;have n_:=Zb (Za (Kd.bCz d0 (adz bl_))) (hs_ HB hb);clear HB;obtain ⟨b0,HB⟩:=n_;clear hb d0)|((with_reducible refine aaz (f:=131) rfl ?_);refine gl_ (some 20) func131 #[.int .i64 0, .int .i64 a2] ?_;(with_reducible refine (aCz.calls k 0 a2 f0 _ A8.o).mono ?_);rintro e w0 ⟨v0,rfl,d0,hb⟩;refine ⟨_,rfl,?_⟩;have n_:=Zb (Za (Kd.dNz (xd_ b0.o) (Kd.cbz d0) hb)) (Zb (Za (Kd.bCz (Kd.R_new' d0 (Kd.R_lt (xd_ b0.o))) (adz bl_))) (hs_ HB hb));clear b0 HB;obtain ⟨b0,c0,HB⟩:=n_;clear hb d0;obtain ⟨k0,i0,j0⟩:=Kd.aQz b0.o;subst j0;obtain ⟨p0,l0,n0⟩:=Kd.aQz c0.o;subst n0)|((with_reducible refine aaz (f:=130) rfl ?_);refine gl_ (some 21) func130 #[.int .i64 a0, .int .u32 a1, .slice k0 e0.length i0, .slice p0 f0.length l0] ?_;(with_reducible refine (ajz.calls k a0 a1 _ _ e0 _ _ f0 o0 q0 _ (xd_ (Kd.aHz b0.o).2.2) ((Kd.aHz b0.o).2.1) (xd_ (Kd.aHz c0.o).2.2) ((Kd.aHz c0.o).2.1) A9.o).mono ?_);rintro e y0 ⟨t0,rfl,d0,hb⟩;refine ⟨_,rfl,?_⟩;have n_:=Zb (Za (Kd.ckz (xd_ b0.o) hb)) (Zb (Za (Kd.ckz (xd_ c0.o) hb)) (Zb (Za (Kd.cMz (Kd.S_new' (Kd.S_new' d0 (Kd.R_lt (xd_ b0.o))) (Kd.R_lt (xd_ c0.o))) (adz bl_))) (hs_ HB hb)));clear b0 c0 HB;obtain ⟨b0,c0,g0,HB⟩:=n_;clear hb d0))
 go_ret2;exact ⟨_,er_,sm_ g0,bl_⟩
def a5z.f (k:Nat) (a0 a1 a2:Int) (a3:Int):Option ((List (List Int))×Bool):=(bkz.f a2 a3).bind fun t354=>(if t354=true then ((apz.f k a0 a1 (wrap64 (a2+a3)) a2).bind fun bt355=>(if 0<=a2 then (if a2<=(bt355.1.length:Int) then ((ahz.f k a0 a1 (bt355.1.take (a2:Int).toNat)).bind fun bt364=>((akz.f k a0 a1 bt355.1 bt364.1).bind fun bt368=>(some (bt368.1,bt368.2)))) else (none)) else (none))) else (some (([] :List (List Int)),false)))
theorem a5z.mono: ∀a0 a1 a2 a3 k,LeO (a5z.f k a0 a1 a2 a3) (a5z.f (k+1) a0 a1 a2 a3):=by
 intro a0 a1 a2 a3 k;unfold a5z.f
 repeat' with_reducible first|apply akz.mono|apply ahz.mono|apply apz.mono|apply Yg|apply Yh|apply Yi|refine Yj ?_ fun _=>?_
theorem a5z.calls (k:Nat) (a0 a1 a2 a3:Int) (r1:List (List Int)) (r2:Bool) (w:World) (h:a5z.f k a0 a1 a2 a3=some (r1,r2)):
  Calls prog 87 #[.int .i64 a0, .int .u32 a1, .int .i64 a2, .int .i64 a3] w fun e w'=> ∃I0:Value,e= .returned (.tuple #[I0, .bool r2])/\Kd.N (Kd.slice 3 (Kd.int .i64)) 57 w' w.heap.size (fun k_=>(w.heap.size<=k_)) I0 r1/\Below w.heap.size w w':=by
 have HB:=Za (Zw w.heap.size w);have H:=h;clear h;unfold a5z.f at H;obtain ⟨A0,A5,H⟩:=ob_ H
 (try dsimp only at H)
 by_cases c6:A0=true
 rotate_left
 ·replace c6:=Zr c6;subst c6;rw [Yb (show¬(false=true) by decide)] at H;simp only [Zx,Zy] at H;obtain ⟨rfl,rfl⟩:=H;go_enter func87,ntmps87
  go_wp2_with (first|((with_reducible refine aaz (f:=129) rfl ?_);refine gl_ (some 16) func129 #[.int .i64 a2, .int .i64 a3] ?_;(with_reducible refine (bkz.calls a2 a3 false _ A5.o).mono ?_);rintro e w' ⟨rfl,⟨nd,rfl⟩⟩;refine ⟨_,rfl,?_⟩))
  go_ret2;exact ⟨_,er_,nl_,bl_⟩
 subst c6;rw [Ya rfl] at H;obtain ⟨⟨e0,D0⟩,A7,H⟩:=ob_ H
 (try dsimp only at H)
 obtain ⟨c8,H⟩:=ig_ H;have P0:=Zz c8;have L0:=Zd c8;clear c8;obtain ⟨c9,H⟩:=ig_ H;have Q0:=Zz c9;have S0:=Zd c9;clear c9;obtain ⟨j0,h0⟩: ∃y_:List (List Int),y_=(e0.take (a2:Int).toNat):=⟨_,rfl⟩
 first|rw [Zl, <-h0] at H|rw [<-h0] at H
 (try dsimp only at H)
 have o0:=Za h0;clear h0;obtain ⟨⟨l0,E0⟩,N0,H⟩:=ob_ H
 (try dsimp only at H)
 obtain ⟨⟨G0,C0⟩,K0,H⟩:=ob_ H
 (try dsimp only at H)
 simp only [Zx,Zy] at H;obtain ⟨rfl,rfl⟩:=H;go_enter func87,ntmps87
 go_wp2_with (first|((with_reducible refine aaz (f:=129) rfl ?_);refine gl_ (some 16) func129 #[.int .i64 a2, .int .i64 a3] ?_;(with_reducible refine (bkz.calls a2 a3 true _ A5.o).mono ?_);rintro e w' ⟨rfl,⟨nd,rfl⟩⟩;refine ⟨_,rfl,?_⟩)|((with_reducible refine aaz (f:=133) rfl ?_);refine gl_ (some 25) func133 #[.int .i64 a0, .int .u32 a1, .int .i64 (wrap64 (a2+a3)), .int .i64 a2] ?_;(with_reducible refine (apz.calls k a0 a1 (wrap64 (a2+a3)) a2 e0 D0 _ A7.o).mono ?_);rintro e V0 ⟨O0,rfl,k0,hb⟩;refine ⟨_,rfl,?_⟩;have n_:=Zb (Za (Kd.bXz (Kd.b2z (ok':=fun k_=>(w.heap.size<=k_)) (Kd.S_N (Kd.bDz k0)) (fun k_ n0=>(Zt (adz bl_) n0.2.1))) (adz bl_))) (hs_ HB hb);clear HB;obtain ⟨b0,HB⟩:=n_;clear hb k0;obtain ⟨g0,f0,H0⟩:=Kd.czz b0.o;subst H0;have B0:(a2:Int)<=((e0.length:Int):Int):=Zc as_;obtain ⟨T0,p0,_,v0,_⟩:=info_parts info57;have i0:e0.length<=f0:=(Kd.bpz b0.o).2.1;have u0:Kd.F (Kd.slice 3 (Kd.int .i64)) _ _ g0 e0.length e0:=(Kd.V_at (base:=w.heap.size) (Kd.N_V b0.o)).2.2;have r0:=cut_to (P:=prog) 68 57 .i64 underlying68 p0 g0 e0.length f0 a2 (Zc as_) B0 i0;have q0:=Kd.F_take (m:=(a2:Int).toNat) u0 (by omega);have t0:j0.length=(a2:Int).toNat:=(by rw [o0.o,List.length_take];omega);rw [<-o0.o] at q0;rw [<-t0] at r0;have c0:=Za (show Kd.V (Kd.slice 3 (Kd.int .i64)) 57 _ w.heap.size _ (.slice g0 j0.length f0) j0 from Kd.V_mk (by omega) q0);have J0:=Za (show j0.length<=f0 from by omega);clear q0 u0 i0 p0 v0;have U0:=Za t0;clear t0;replace B0:=Zz B0)|((with_reducible refine aaz (f:=64) rfl ?_);refine gl_ (some 34) func64 #[.int .i64 a0, .int .u32 a1, .slice g0 j0.length f0] ?_;(with_reducible refine (ahz.calls k a0 a1 _ _ j0 l0 E0 _ (xd_ (Kd.dcz c0.o).2.2) ((Kd.dcz c0.o).2.1) N0.o).mono ?_);rintro e X0 ⟨R0,rfl,k0,hb⟩;refine ⟨_,rfl,?_⟩;have n_:=Zb (Za (Kd.bYz (xd_ b0.o) (Kd.dfz k0) hb)) (Zb (Za (Kd.dOz (xd_ c0.o) (Kd.dfz k0) hb)) (Zb (Za (Kd.bXz (Kd.b2z (ok':=fun k_=>(w.heap.size<=k_)/\some k_≠(.slice g0 e0.length f0:Value).ownBlock) k0 (fun k_ n0=>⟨(Zt (adz bl_) n0),(Kd.fresh' (Kd.N_lt (xd_ b0.o)) k_ n0)⟩)) (adz bl_))) (hs_ HB hb)));clear b0 c0 HB;obtain ⟨b0,c0,d0,HB⟩:=n_;clear hb k0;obtain ⟨y0,w0,F0⟩:=Kd.czz d0.o;subst F0)|((with_reducible refine aaz (f:=127) rfl ?_);refine gl_ (some 41) func127 #[.int .i64 a0, .int .u32 a1, .slice g0 e0.length f0, .slice y0 l0.length w0] ?_;(with_reducible refine (akz.calls k a0 a1 _ _ e0 _ _ l0 G0 C0 _ (xd_ (Kd.bpz b0.o).2.2) ((Kd.bpz b0.o).2.1) (xd_ (Kd.bpz d0.o).2.2) ((Kd.bpz d0.o).2.1) K0.o).mono ?_);rintro e W0 ⟨M0,rfl,k0,hb⟩;refine ⟨_,rfl,?_⟩;have n_:=Zb (Za (Kd.bYz (xd_ b0.o) (Kd.dez k0) hb)) (Zb (Za (Kd.dOz (xd_ c0.o) (Kd.dez k0) hb)) (Zb (Za (Kd.bYz (xd_ d0.o) (Kd.dez k0) hb)) (Zb (Za (Kd.bXz (Kd.b2z (ok':=fun k_=>(w.heap.size<=k_)/\some k_≠(.slice g0 e0.length f0:Value).ownBlock/\some k_≠(.slice y0 l0.length w0:Value).ownBlock) (Kd.S_N (Kd.bDz k0)) (fun k_ n0=>⟨(Zt (adz bl_) n0.2.1),(Kd.fresh' (Kd.N_lt (xd_ b0.o)) k_ n0.2.1),(Kd.fresh' (Kd.N_lt (xd_ d0.o)) k_ n0.2.1)⟩)) (adz bl_))) (hs_ HB hb))));clear b0 c0 d0 HB;obtain ⟨b0,c0,d0,z0,HB⟩:=n_;clear hb k0))
 go_ret2;exact ⟨_,er_,nm_ z0,bl_⟩
def bsz.f (k:Nat) (a0_0 a0_1:Int) (a0_2:Int):Option ((List (List Int))×Bool):=(bmz.f a0_0 a0_1 a0_2).bind fun t373=>(if t373=true then ((aSz.f a0_0).bind fun bt374=>(if a0_0=1 then ((acz.f k bt374.2.1 bt374.2.2.1 a0_1 a0_2).bind fun bt381=>(some (bt381.1,bt381.2))) else (if a0_0=2 then ((bcz.f k bt374.2.1 bt374.2.2.1 a0_1 a0_2).bind fun bt385=>(some (bt385.1,bt385.2))) else (if a0_0=3 then ((arz.f k bt374.2.1 bt374.2.2.1 a0_1 a0_2).bind fun bt389=>(some (bt389.1,bt389.2))) else (if a0_0=4 then ((bdz.f k bt374.2.1 bt374.2.2.1 a0_1 a0_2).bind fun bt393=>(some (bt393.1,bt393.2))) else ((a5z.f k bt374.2.1 bt374.2.2.1 a0_1 a0_2).bind fun bt397=>(if 0<=a0_1 then (if a0_1<=(bt397.1.length:Int) then (some ((bt397.1.drop (a0_1:Int).toNat),bt397.2)) else (none)) else (none)))))))) else (some (([] :List (List Int)),false)))
theorem bsz.mono: ∀a0 a1 a2 k,LeO (bsz.f k a0 a1 a2) (bsz.f (k+1) a0 a1 a2):=by
 intro a0 a1 a2 k;unfold bsz.f
 repeat' with_reducible first|apply arz.mono|apply a5z.mono|apply acz.mono|apply bdz.mono|apply bcz.mono|apply Yg|apply Yh|apply Yi|refine Yj ?_ fun _=>?_
theorem bsz.calls (k:Nat) (b0 d0 f0:Int) (r1:List (List Int)) (r2:Bool) (w:World) (h:bsz.f k b0 d0 f0=some (r1,r2)):
  Calls prog 51 #[.agg #[.int .i64 b0, .int .i64 d0, .int .i64 f0]] w fun e w'=> ∃D1:Value,e= .returned (.tuple #[D1, .bool r2])/\Kd.V (Kd.slice 3 (Kd.int .i64)) 57 w' w.heap.size (fun k_=>(w.heap.size<=k_)) D1 r1/\Below w.heap.size w w':=by
 have d2:=underlying23;have f2:=underlying79;have HB:=Za (Zw w.heap.size w);have H:=h;clear h;unfold bsz.f at H;obtain ⟨f1,A2,H⟩:=ob_ H
 (try dsimp only at H)
 by_cases c3:f1=true
 rotate_left
 ·replace c3:=Zr c3;subst c3;rw [Yb (show¬(false=true) by decide)] at H;simp only [Zx,Zy] at H;obtain ⟨rfl,rfl⟩:=H;go_enter func51,ntmps51
  go_wp2_with (first|((with_reducible refine aTz (N:=1) rfl ?_);refine bx_ 1 #[.int .i64 b0, .int .i64 d0, .int .i64 f0] 23 ?_;intro e0 hg E2 i0 hb;have n_:=Zb (hs_ HB hb) (Zb (Za (i0)) (Zb (ag_ HB e0) (ag_ HB e0)));clear HB;obtain ⟨HB,a0,u0,v0⟩:=n_;clear hb i0 hg;obtain ⟨_,_,_,_,_,_⟩:=bc3_ a0.o)|((with_reducible refine aaz (f:=48) rfl ?_);refine gl_ (some 9) func48 #[.agg #[.int .i64 b0, .int .i64 d0, .int .i64 f0]] ?_;(with_reducible refine (bmz.calls b0 d0 f0 false _ A2.o).mono ?_);rintro e l2 ⟨rfl,hb⟩;refine ⟨_,rfl,?_⟩;have n_:=Zb (bb_ a0 hb) (hs_ HB hb);clear a0 HB;obtain ⟨a0,HB⟩:=n_;(try clear hb)))
  go_ret2;exact ⟨_,er_,(by first|exact Kd.V_nil _ _ _ _ _|exact Kd.N_V (Kd.N_nil _ _ _ _ _)),bl_⟩
 subst c3;rw [Ya rfl] at H;obtain ⟨⟨o0,l0,k0,n0,p0,F0⟩,A4,H⟩:=ob_ H
 (try dsimp only at H)
 by_cases c5:b0=1
 ·rw [Ya c5] at H;have m1:(b0==1)=true:=Ye c5;have p1:(b0 !=1)=false:=Yc c5;clear c5;obtain ⟨⟨g1,o1⟩,A6,H⟩:=ob_ H
  (try dsimp only at H)
  simp only [Zx,Zy] at H;obtain ⟨rfl,rfl⟩:=H;go_enter func51,ntmps51
  go_wp2_with (first|((with_reducible refine aTz (N:=1) rfl ?_);refine bx_ 1 #[.int .i64 b0, .int .i64 d0, .int .i64 f0] 23 ?_;intro e0 hg w7 i0 hb;have n_:=Zb (hs_ HB hb) (Zb (Za (i0)) (Zb (ag_ HB e0) (ag_ HB e0)));clear HB;obtain ⟨HB,a0,u0,v0⟩:=n_;clear hb i0 hg;obtain ⟨_,_,_,_,_,_⟩:=bc3_ a0.o)|((with_reducible refine aaz (f:=48) rfl ?_);refine gl_ (some 9) func48 #[.agg #[.int .i64 b0, .int .i64 d0, .int .i64 f0]] ?_;(with_reducible refine (bmz.calls b0 d0 f0 true _ A2.o).mono ?_);rintro e w9 ⟨rfl,hb⟩;refine ⟨_,rfl,?_⟩;have n_:=Zb (bb_ a0 hb) (hs_ HB hb);clear a0 HB;obtain ⟨a0,HB⟩:=n_;(try clear hb);obtain ⟨_,_,_,_,_,_⟩:=bc3_ a0.o)|((with_reducible refine aaz (f:=50) rfl ?_);refine gl_ (some 14) func50 #[.int .i64 b0] ?_;(with_reducible refine (aSz.calls b0 o0 l0 k0 n0 p0 F0 _ A4.o).mono ?_);rintro e F2 ⟨rfl,hb⟩;refine ⟨_,rfl,?_⟩;have n_:=Zb (bb_ a0 hb) (hs_ HB hb);clear a0 HB;obtain ⟨a0,HB⟩:=n_;(try clear hb))|((with_reducible refine aTz (N:=4) rfl ?_);refine cgz ?hg (N:=4) ?hd (cs:= #[.string (⟨#[]⟩:ByteArray), .int .i64 0, .int .u32 0, .int .u8 0, .int .i64 0]) (t:=79) ?hr ?_;(case hd=>rfl);(case hg=>rfl);(case hr=>first|(go_simp;done)|(go_simp;rfl));intro c0 hg y2 i0 hb;have n_:=Zb (bb_ a0 hb) (Zb (hs_ HB hb) (Zb (Za (i0)) (Zb (ag_ HB c0) (Zb (ag_ HB c0) (Zb (n1_ a0 c0) (n2_ a0 c0))))));clear a0 HB;obtain ⟨a0,HB,j0,A0,B0,h0,g0⟩:=n_;clear hb i0 hg;have J1:=g0.o;have P1:=h0.o;obtain ⟨_,_,_,_,_,_,_,_,_,_⟩:=bc5_ j0.o;obtain ⟨_,_,_,_,_,_⟩:=bc3_ a0.o)|((with_reducible refine aaz (f:=83) rfl ?_);refine gl_ (some 29) func83 #[.int .i64 l0, .int .u32 k0, .int .i64 d0, .int .i64 f0] ?_;(with_reducible refine (acz.calls k l0 k0 d0 f0 g1 o1 _ A6.o).mono ?_);rintro e B2 ⟨c2,rfl,z0,hb⟩;refine ⟨_,rfl,?_⟩;have n_:=Zb (Za (Kd.bXz (Kd.b2z (ok':=fun k_=>(w.heap.size<=k_)/\k_≠e0/\k_≠c0) z0 (fun k_ r0=>⟨(Zt (adz bl_) r0),(Kd.freshB (g:=e0) (o:= .cells #[.int .i64 b0, .int .i64 d0, .int .i64 f0] 23 (0,0)) kb_ k_ r0),(Kd.freshB (g:=c0) (o:= .cells #[.string o0, .int .i64 l0, .int .u32 k0, .int .u8 n0, .int .i64 p0] 79 (0,0)) kb_ k_ r0)⟩)) (adz bl_))) (Zb (Za (aNz (g:=e0) (o:= .cells #[.int .i64 b0, .int .i64 d0, .int .i64 f0] 23 (0,0)) kb_ hb)) (Zb (Za (aNz (g:=c0) (o:= .cells #[.string o0, .int .i64 l0, .int .u32 k0, .int .u8 n0, .int .i64 p0] 79 (0,0)) kb_ hb)) (hs_ HB hb)));clear a0 j0 HB;obtain ⟨b1,a0,j0,HB⟩:=n_;clear hb z0))
  go_ret2;exact ⟨_,er_,Kd.N_V (nm_ b1),bl_⟩
 ·rw [Yb c5] at H;have m1:(b0==1)=false:=Zq c5;have p1:(b0 !=1)=true:=Yd c5;by_cases P0:b0=2
  ·rw [Ya P0] at H;have U0:(b0==2)=true:=Ye P0;have c1:(b0 !=2)=false:=Yc P0;clear P0;obtain ⟨⟨s1,q1⟩,a2,H⟩:=ob_ H
   (try dsimp only at H)
   simp only [Zx,Zy] at H;obtain ⟨rfl,rfl⟩:=H;go_enter func51,ntmps51
   go_wp2_with (first|((with_reducible refine aTz (N:=1) rfl ?_);refine bx_ 1 #[.int .i64 b0, .int .i64 d0, .int .i64 f0] 23 ?_;intro e0 hg D2 i0 hb;have n_:=Zb (hs_ HB hb) (Zb (Za (i0)) (Zb (ag_ HB e0) (ag_ HB e0)));clear HB;obtain ⟨HB,a0,u0,v0⟩:=n_;clear hb i0 hg;obtain ⟨_,_,_,_,_,_⟩:=bc3_ a0.o)|((with_reducible refine aaz (f:=48) rfl ?_);refine gl_ (some 9) func48 #[.agg #[.int .i64 b0, .int .i64 d0, .int .i64 f0]] ?_;(with_reducible refine (bmz.calls b0 d0 f0 true _ A2.o).mono ?_);rintro e q2 ⟨rfl,hb⟩;refine ⟨_,rfl,?_⟩;have n_:=Zb (bb_ a0 hb) (hs_ HB hb);clear a0 HB;obtain ⟨a0,HB⟩:=n_;(try clear hb);obtain ⟨_,_,_,_,_,_⟩:=bc3_ a0.o)|((with_reducible refine aaz (f:=50) rfl ?_);refine gl_ (some 14) func50 #[.int .i64 b0] ?_;(with_reducible refine (aSz.calls b0 o0 l0 k0 n0 p0 F0 _ A4.o).mono ?_);rintro e k2 ⟨rfl,hb⟩;refine ⟨_,rfl,?_⟩;have n_:=Zb (bb_ a0 hb) (hs_ HB hb);clear a0 HB;obtain ⟨a0,HB⟩:=n_;(try clear hb))|((with_reducible refine aTz (N:=4) rfl ?_);refine cgz ?hg (N:=4) ?hd (cs:= #[.string (⟨#[]⟩:ByteArray), .int .i64 0, .int .u32 0, .int .u8 0, .int .i64 0]) (t:=79) ?hr ?_;(case hd=>rfl);(case hg=>rfl);(case hr=>first|(go_simp;done)|(go_simp;rfl));intro c0 hg H2 i0 hb;have n_:=Zb (bb_ a0 hb) (Zb (hs_ HB hb) (Zb (Za (i0)) (Zb (ag_ HB c0) (Zb (ag_ HB c0) (Zb (n1_ a0 c0) (n2_ a0 c0))))));clear a0 HB;obtain ⟨a0,HB,j0,A0,B0,h0,g0⟩:=n_;clear hb i0 hg;have O1:=g0.o;have A1:=h0.o;obtain ⟨_,_,_,_,_,_,_,_,_,_⟩:=bc5_ j0.o;obtain ⟨_,_,_,_,_,_⟩:=bc3_ a0.o)|((with_reducible refine aaz (f:=84) rfl ?_);refine gl_ (some 42) func84 #[.int .i64 l0, .int .u32 k0, .int .i64 d0, .int .i64 f0] ?_;(with_reducible refine (bcz.calls k l0 k0 d0 f0 s1 q1 _ a2.o).mono ?_);rintro e o2 ⟨T1,rfl,z0,hb⟩;refine ⟨_,rfl,?_⟩;have n_:=Zb (Za (Kd.bXz (Kd.b2z (ok':=fun k_=>(w.heap.size<=k_)/\k_≠e0/\k_≠c0) (Kd.S_N (Kd.bDz z0)) (fun k_ r0=>⟨(Zt (adz bl_) r0.2.1),(Kd.freshB (g:=e0) (o:= .cells #[.int .i64 b0, .int .i64 d0, .int .i64 f0] 23 (0,0)) kb_ k_ r0.2.1),(Kd.freshB (g:=c0) (o:= .cells #[.string o0, .int .i64 l0, .int .u32 k0, .int .u8 n0, .int .i64 p0] 79 (0,0)) kb_ k_ r0.2.1)⟩)) (adz bl_))) (Zb (Za (aNz (g:=e0) (o:= .cells #[.int .i64 b0, .int .i64 d0, .int .i64 f0] 23 (0,0)) kb_ hb)) (Zb (Za (aNz (g:=c0) (o:= .cells #[.string o0, .int .i64 l0, .int .u32 k0, .int .u8 n0, .int .i64 p0] 79 (0,0)) kb_ hb)) (hs_ HB hb)));clear a0 j0 HB;obtain ⟨W0,a0,j0,HB⟩:=n_;clear hb z0))
   go_ret2;exact ⟨_,er_,Kd.N_V (nm_ W0),bl_⟩
  ·rw [Yb P0] at H;have U0:(b0==2)=false:=Zq P0;have c1:(b0 !=2)=true:=Yd P0;by_cases N0:b0=3
   ·rw [Ya N0] at H;have a1:(b0==3)=true:=Ye N0;have X0:(b0 !=3)=false:=Yc N0;clear N0;obtain ⟨⟨l1,t1⟩,Q1,H⟩:=ob_ H
    (try dsimp only at H)
    simp only [Zx,Zy] at H;obtain ⟨rfl,rfl⟩:=H;go_enter func51,ntmps51
    go_wp2_with (first|((with_reducible refine aTz (N:=1) rfl ?_);refine bx_ 1 #[.int .i64 b0, .int .i64 d0, .int .i64 f0] 23 ?_;intro e0 hg n2 i0 hb;have n_:=Zb (hs_ HB hb) (Zb (Za (i0)) (Zb (ag_ HB e0) (ag_ HB e0)));clear HB;obtain ⟨HB,a0,u0,v0⟩:=n_;clear hb i0 hg;obtain ⟨_,_,_,_,_,_⟩:=bc3_ a0.o)|((with_reducible refine aaz (f:=48) rfl ?_);refine gl_ (some 9) func48 #[.agg #[.int .i64 b0, .int .i64 d0, .int .i64 f0]] ?_;(with_reducible refine (bmz.calls b0 d0 f0 true _ A2.o).mono ?_);rintro e t2 ⟨rfl,hb⟩;refine ⟨_,rfl,?_⟩;have n_:=Zb (bb_ a0 hb) (hs_ HB hb);clear a0 HB;obtain ⟨a0,HB⟩:=n_;(try clear hb);obtain ⟨_,_,_,_,_,_⟩:=bc3_ a0.o)|((with_reducible refine aaz (f:=50) rfl ?_);refine gl_ (some 14) func50 #[.int .i64 b0] ?_;(with_reducible refine (aSz.calls b0 o0 l0 k0 n0 p0 F0 _ A4.o).mono ?_);rintro e z2 ⟨rfl,hb⟩;refine ⟨_,rfl,?_⟩;have n_:=Zb (bb_ a0 hb) (hs_ HB hb);clear a0 HB;obtain ⟨a0,HB⟩:=n_;(try clear hb))|((with_reducible refine aTz (N:=4) rfl ?_);refine cgz ?hg (N:=4) ?hd (cs:= #[.string (⟨#[]⟩:ByteArray), .int .i64 0, .int .u32 0, .int .u8 0, .int .i64 0]) (t:=79) ?hr ?_;(case hd=>rfl);(case hg=>rfl);(case hr=>first|(go_simp;done)|(go_simp;rfl));intro c0 hg C2 i0 hb;have n_:=Zb (bb_ a0 hb) (Zb (hs_ HB hb) (Zb (Za (i0)) (Zb (ag_ HB c0) (Zb (ag_ HB c0) (Zb (n1_ a0 c0) (n2_ a0 c0))))));clear a0 HB;obtain ⟨a0,HB,j0,A0,B0,h0,g0⟩:=n_;clear hb i0 hg;have G1:=g0.o;have H1:=h0.o;obtain ⟨_,_,_,_,_,_,_,_,_,_⟩:=bc5_ j0.o;obtain ⟨_,_,_,_,_,_⟩:=bc3_ a0.o)|((with_reducible refine aaz (f:=85) rfl ?_);refine gl_ (some 55) func85 #[.int .i64 l0, .int .u32 k0, .int .i64 d0, .int .i64 f0] ?_;(with_reducible refine (arz.calls k l0 k0 d0 f0 l1 t1 _ Q1.o).mono ?_);rintro e m2 ⟨e2,rfl,z0,hb⟩;refine ⟨_,rfl,?_⟩;have n_:=Zb (Za (Kd.bXz (Kd.b2z (ok':=fun k_=>(w.heap.size<=k_)/\k_≠e0/\k_≠c0) (Kd.S_N (Kd.bDz z0)) (fun k_ r0=>⟨(Zt (adz bl_) r0.2.1),(Kd.freshB (g:=e0) (o:= .cells #[.int .i64 b0, .int .i64 d0, .int .i64 f0] 23 (0,0)) kb_ k_ r0.2.1),(Kd.freshB (g:=c0) (o:= .cells #[.string o0, .int .i64 l0, .int .u32 k0, .int .u8 n0, .int .i64 p0] 79 (0,0)) kb_ k_ r0.2.1)⟩)) (adz bl_))) (Zb (Za (aNz (g:=e0) (o:= .cells #[.int .i64 b0, .int .i64 d0, .int .i64 f0] 23 (0,0)) kb_ hb)) (Zb (Za (aNz (g:=c0) (o:= .cells #[.string o0, .int .i64 l0, .int .u32 k0, .int .u8 n0, .int .i64 p0] 79 (0,0)) kb_ hb)) (hs_ HB hb)));clear a0 j0 HB;obtain ⟨Z0,a0,j0,HB⟩:=n_;clear hb z0))
    go_ret2;exact ⟨_,er_,Kd.N_V (nm_ Z0),bl_⟩
   ·rw [Yb N0] at H;have a1:(b0==3)=false:=Zq N0;have X0:(b0 !=3)=true:=Yd N0;by_cases Q0:b0=4
    ·rw [Ya Q0] at H;have S0:(b0==4)=true:=Ye Q0;have Y0:(b0 !=4)=false:=Yc Q0;clear Q0;obtain ⟨⟨v1,j1⟩,V1,H⟩:=ob_ H
     (try dsimp only at H)
     simp only [Zx,Zy] at H;obtain ⟨rfl,rfl⟩:=H;go_enter func51,ntmps51
     go_wp2_with (first|((with_reducible refine aTz (N:=1) rfl ?_);refine bx_ 1 #[.int .i64 b0, .int .i64 d0, .int .i64 f0] 23 ?_;intro e0 hg i2 i0 hb;have n_:=Zb (hs_ HB hb) (Zb (Za (i0)) (Zb (ag_ HB e0) (ag_ HB e0)));clear HB;obtain ⟨HB,a0,u0,v0⟩:=n_;clear hb i0 hg;obtain ⟨_,_,_,_,_,_⟩:=bc3_ a0.o)|((with_reducible refine aaz (f:=48) rfl ?_);refine gl_ (some 9) func48 #[.agg #[.int .i64 b0, .int .i64 d0, .int .i64 f0]] ?_;(with_reducible refine (bmz.calls b0 d0 f0 true _ A2.o).mono ?_);rintro e p2 ⟨rfl,hb⟩;refine ⟨_,rfl,?_⟩;have n_:=Zb (bb_ a0 hb) (hs_ HB hb);clear a0 HB;obtain ⟨a0,HB⟩:=n_;(try clear hb);obtain ⟨_,_,_,_,_,_⟩:=bc3_ a0.o)|((with_reducible refine aaz (f:=50) rfl ?_);refine gl_ (some 14) func50 #[.int .i64 b0] ?_;(with_reducible refine (aSz.calls b0 o0 l0 k0 n0 p0 F0 _ A4.o).mono ?_);rintro e v2 ⟨rfl,hb⟩;refine ⟨_,rfl,?_⟩;have n_:=Zb (bb_ a0 hb) (hs_ HB hb);clear a0 HB;obtain ⟨a0,HB⟩:=n_;(try clear hb))|((with_reducible refine aTz (N:=4) rfl ?_);refine cgz ?hg (N:=4) ?hd (cs:= #[.string (⟨#[]⟩:ByteArray), .int .i64 0, .int .u32 0, .int .u8 0, .int .i64 0]) (t:=79) ?hr ?_;(case hd=>rfl);(case hg=>rfl);(case hr=>first|(go_simp;done)|(go_simp;rfl));intro c0 hg g2 i0 hb;have n_:=Zb (bb_ a0 hb) (Zb (hs_ HB hb) (Zb (Za (i0)) (Zb (ag_ HB c0) (Zb (ag_ HB c0) (Zb (n1_ a0 c0) (n2_ a0 c0))))));clear a0 HB;obtain ⟨a0,HB,j0,A0,B0,h0,g0⟩:=n_;clear hb i0 hg;have I1:=g0.o;have L1:=h0.o;obtain ⟨_,_,_,_,_,_,_,_,_,_⟩:=bc5_ j0.o;obtain ⟨_,_,_,_,_,_⟩:=bc3_ a0.o)|((with_reducible refine aaz (f:=86) rfl ?_);refine gl_ (some 68) func86 #[.int .i64 l0, .int .u32 k0, .int .i64 d0, .int .i64 f0] ?_;(with_reducible refine (bdz.calls k l0 k0 d0 f0 v1 j1 _ V1.o).mono ?_);rintro e G2 ⟨U1,rfl,z0,hb⟩;refine ⟨_,rfl,?_⟩;have n_:=Zb (Za (Kd.bXz (Kd.b2z (ok':=fun k_=>(w.heap.size<=k_)/\k_≠e0/\k_≠c0) (Kd.S_N (Kd.bDz z0)) (fun k_ r0=>⟨(Zt (adz bl_) r0.2.1),(Kd.freshB (g:=e0) (o:= .cells #[.int .i64 b0, .int .i64 d0, .int .i64 f0] 23 (0,0)) kb_ k_ r0.2.1),(Kd.freshB (g:=c0) (o:= .cells #[.string o0, .int .i64 l0, .int .u32 k0, .int .u8 n0, .int .i64 p0] 79 (0,0)) kb_ k_ r0.2.1)⟩)) (adz bl_))) (Zb (Za (aNz (g:=e0) (o:= .cells #[.int .i64 b0, .int .i64 d0, .int .i64 f0] 23 (0,0)) kb_ hb)) (Zb (Za (aNz (g:=c0) (o:= .cells #[.string o0, .int .i64 l0, .int .u32 k0, .int .u8 n0, .int .i64 p0] 79 (0,0)) kb_ hb)) (hs_ HB hb)));clear a0 j0 HB;obtain ⟨V0,a0,j0,HB⟩:=n_;clear hb z0))
     go_ret2;exact ⟨_,er_,Kd.N_V (nm_ V0),bl_⟩
    ·rw [Yb Q0] at H;have S0:(b0==4)=false:=Zq Q0;have Y0:(b0 !=4)=true:=Yd Q0;obtain ⟨⟨t0,e1⟩,R1,H⟩:=ob_ H
     (try dsimp only at H)
     obtain ⟨i1,H⟩:=ig_ H;have z1:=Zz i1;have K1:=Zd i1;clear i1;obtain ⟨d1,H⟩:=ig_ H;have F1:=Zz d1;have B1:=Zd d1;clear d1;obtain ⟨w0,y0⟩: ∃y_:List (List Int),y_=(t0.drop (d0:Int).toNat):=⟨_,rfl⟩
     first|rw [Zl, <-y0] at H|rw [<-y0] at H
     (try dsimp only at H)
     have M0:=Za y0;clear y0;simp only [Zx,Zy] at H;obtain ⟨rfl,rfl⟩:=H;go_enter func51,ntmps51
     go_wp2_with (first|((with_reducible refine aTz (N:=1) rfl ?_);refine bx_ 1 #[.int .i64 b0, .int .i64 d0, .int .i64 f0] 23 ?_;intro e0 hg u2 i0 hb;have n_:=Zb (hs_ HB hb) (Zb (Za (i0)) (Zb (ag_ HB e0) (ag_ HB e0)));clear HB;obtain ⟨HB,a0,u0,v0⟩:=n_;clear hb i0 hg;obtain ⟨_,_,_,_,_,_⟩:=bc3_ a0.o)|((with_reducible refine aaz (f:=48) rfl ?_);refine gl_ (some 9) func48 #[.agg #[.int .i64 b0, .int .i64 d0, .int .i64 f0]] ?_;(with_reducible refine (bmz.calls b0 d0 f0 true _ A2.o).mono ?_);rintro e w2 ⟨rfl,hb⟩;refine ⟨_,rfl,?_⟩;have n_:=Zb (bb_ a0 hb) (hs_ HB hb);clear a0 HB;obtain ⟨a0,HB⟩:=n_;(try clear hb);obtain ⟨_,_,_,_,_,_⟩:=bc3_ a0.o)|((with_reducible refine aaz (f:=50) rfl ?_);refine gl_ (some 14) func50 #[.int .i64 b0] ?_;(with_reducible refine (aSz.calls b0 o0 l0 k0 n0 p0 F0 _ A4.o).mono ?_);rintro e s2 ⟨rfl,hb⟩;refine ⟨_,rfl,?_⟩;have n_:=Zb (bb_ a0 hb) (hs_ HB hb);clear a0 HB;obtain ⟨a0,HB⟩:=n_;(try clear hb))|((with_reducible refine aTz (N:=4) rfl ?_);refine cgz ?hg (N:=4) ?hd (cs:= #[.string (⟨#[]⟩:ByteArray), .int .i64 0, .int .u32 0, .int .u8 0, .int .i64 0]) (t:=79) ?hr ?_;(case hd=>rfl);(case hg=>rfl);(case hr=>first|(go_simp;done)|(go_simp;rfl));intro c0 hg I2 i0 hb;have n_:=Zb (bb_ a0 hb) (Zb (hs_ HB hb) (Zb (Za (i0)) (Zb (ag_ HB c0) (Zb (ag_ HB c0) (Zb (n1_ a0 c0) (n2_ a0 c0))))));clear a0 HB;obtain ⟨a0,HB,j0,A0,B0,h0,g0⟩:=n_;clear hb i0 hg;have N1:=g0.o;have y1:=h0.o;obtain ⟨_,_,_,_,_,_,_,_,_,_⟩:=bc5_ j0.o;obtain ⟨_,_,_,_,_,_⟩:=bc3_ a0.o)|((with_reducible refine aaz (f:=87) rfl ?_);refine gl_ (some 80) func87 #[.int .i64 l0, .int .u32 k0, .int .i64 d0, .int .i64 f0] ?_;(with_reducible refine (a5z.calls k l0 k0 d0 f0 t0 e1 _ R1.o).mono ?_);rintro e j2 ⟨S1,rfl,z0,hb⟩;refine ⟨_,rfl,?_⟩;have n_:=Zb (Za (Kd.bXz (Kd.b2z (ok':=fun k_=>(w.heap.size<=k_)/\k_≠e0/\k_≠c0) z0 (fun k_ r0=>⟨(Zt (adz bl_) r0),(Kd.freshB (g:=e0) (o:= .cells #[.int .i64 b0, .int .i64 d0, .int .i64 f0] 23 (0,0)) kb_ k_ r0),(Kd.freshB (g:=c0) (o:= .cells #[.string o0, .int .i64 l0, .int .u32 k0, .int .u8 n0, .int .i64 p0] 79 (0,0)) kb_ k_ r0)⟩)) (adz bl_))) (Zb (Za (aNz (g:=e0) (o:= .cells #[.int .i64 b0, .int .i64 d0, .int .i64 f0] 23 (0,0)) kb_ hb)) (Zb (Za (aNz (g:=c0) (o:= .cells #[.string o0, .int .i64 l0, .int .u32 k0, .int .u8 n0, .int .i64 p0] 79 (0,0)) kb_ hb)) (hs_ HB hb)));clear a0 j0 HB;obtain ⟨E0,a0,j0,HB⟩:=n_;clear hb z0;obtain ⟨_,_,_,_,_,_⟩:=bc3_ a0.o;obtain ⟨J0,C0,n1⟩:=Kd.czz E0.o;subst n1;have u1:(d0:Int)<=((t0.length:Int):Int):=Zc as_;obtain ⟨Z1,L0,_,K0,_⟩:=info_parts info57;have q0:t0.length<=C0:=(Kd.bpz E0.o).2.1;have T0:Kd.F (Kd.slice 3 (Kd.int .i64)) _ _ J0 t0.length t0:=(Kd.V_at (base:=w.heap.size) (Kd.N_V E0.o)).2.2;have k1:(0:Int)<=(d0:Int):=Zc as_;have O0:=cut_from (P:=prog) 68 57 .i64 underlying68 L0 1 K0 J0 t0.length C0 d0 k1 u1;have G0:=Kd.F_cut (m:=(d0:Int).toNat) (c:=C0) T0 (by omega) q0;obtain ⟨E1,H0⟩: ∃X1,X1=(if C0=(d0:Int).toNat then J0 else (J0:Option Addr).map (·.add ((d0:Int).toNat*1))):=⟨_,rfl⟩;obtain ⟨C1,I0⟩: ∃b2,b2=C0 - (d0:Int).toNat:=⟨_,rfl⟩;have D0:w0.length=t0.length - (d0:Int).toNat:=(by rw [M0.o,List.length_drop] <;>omega);rw [show (t0).drop (d0:Int).toNat=w0 from M0.o.symm] at G0;replace G0:Kd.F (Kd.slice 3 (Kd.int .i64)) _ _ E1 w0.length w0:=(by rw [H0];exact G0);rw [<-D0, <-H0, <-I0] at O0;have R0:=Za (show Kd.V (Kd.slice 3 (Kd.int .i64)) 57 _ w.heap.size _ (.slice E1 w0.length C1) w0 from Kd.V_mk (by rw [D0,I0];exact Nat.sub_le_sub_right q0 _) G0);have M1:=Za (show w0.length<=C1 from by rw [D0,I0];exact Nat.sub_le_sub_right q0 _);clear G0 T0 q0 L0 K0 I0;have Y1:=Za D0;have W1:=Za H0;clear D0 H0;replace u1:=Zz u1))
     go_ret2;exact ⟨_,er_,vm_ R0,bl_⟩
def aZz.l0:Nat->List Int->List Int->List Int->Int->Option (List Int×Bool)
 |0,_,_,_,_=>none
 |k+1,x0,x1,x6,x7=>if x7<(x0.length:Int) then (if 0<=x7 then (if x7<(x1.length:Int) then (if x6.length<140737488355328 then (aZz.l0 k x0 x1 (x6++ [Go.bits .xor .u8 (rd x0 x7) (rd x1 x7)]) (wrap64 (x7+1))) else (none)) else (none)) else (none)) else (some (x6,true))
def aZz.f (k:Nat) (l0:List Int) (l1:List Int):Option (List Int×Bool):=if (l0.length:Int)=(l1.length:Int) then (aZz.l0 k l0 l1 ([] :List Int) 0) else (some (([] :List Int),false))
def aZz.T7:Bool×List (List Nat×List Nat):=(true, [([], []),([], []),([], []),([1,2], [1,2]),([3], [3]),([], []),([], []),([5,6], [5,6]),([7], [7]),([4,8], [4,8]),([9], [9]),([0,10], [0,10]),([11,11,0,1,2,3,4,5,6,7,8,9,10,11], [0,11])])
def aZz.B7:List Nat:= [0,0,0,6,14,0,0,96,224,510,1022,2047,4095]
theorem aZz.tab7:rtab .any (opsOf Tryz.f70 7)=aZz.T7:=by kernel_rfl
theorem aZz.bits7:waitsOk aZz.T7.2 aZz.B7=true:=by kernel_rfl
theorem aZz.calls (k:Nat) (A0:Option Addr) (c0:Nat) (l0:List Int) (A1:Option Addr) (c1:Nat) (l1 r1:List Int) (r2:Bool) (w:World) (J0:Kd.C (Kd.int .u8) w A0 l0.length l0) (I0:l0.length<=c0) (M0:Kd.C (Kd.int .u8) w A1 l1.length l1) (L0:l1.length<=c1) (h:aZz.f k l0 l1=some (r1,r2)):
  Calls prog 70 #[.slice A0 l0.length c0, .slice A1 l1.length c1] w fun e w'=> ∃G0:Value,e= .returned (.tuple #[G0, .bool r2])/\Kd.R (Kd.int .u8) 5 w' w.heap.size (fun _=>True) G0 r1/\Below w.heap.size w w':=by
 have P0:=Za J0;have S0:=Za I0;clear J0 I0;have Q0:=Za M0;have T0:=Za L0;clear M0 L0;have HB:=Za (Zw w.heap.size w);have H:=h;clear h;unfold aZz.f at H;by_cases c3:(l0.length:Int)=(l1.length:Int)
 rotate_left
 ·rw [Yb c3] at H;have r0:((l0.length:Int)==(l1.length:Int))=false:=Zq c3;have u0:((l0.length:Int) !=(l1.length:Int))=true:=Yd c3
  have v0:(l0.length==l1.length)=false:=by first|simpa using c3|(simp at c3|-;omega)
  simp only [Zx,Zy] at H;obtain ⟨rfl,rfl⟩:=H;go_enter func70,ntmps70;go_wp2;go_ret2;exact ⟨_,er_,nl_,bl_⟩
 rw [Ya c3] at H;have r0:((l0.length:Int)==(l1.length:Int))=true:=Ye c3;have u0:((l0.length:Int) !=(l1.length:Int))=false:=Yc c3
 have v0:(l0.length==l1.length)=true:=by first|simpa using c3|(simp at c3|-;omega)
 clear c3;have H':=Za H;clear H;go_enter func70,ntmps70;go_wp2
 go_loopg [6,7] k (fun kq v6 v7 w'=> ∃(j0:List Int) (d0:Int),v7= .int .i64 d0/\Aside0 (aZz.l0 kq l0 l1 j0 d0=some (r1,r2))/\Aside0 (kq<=k)/\Aside0 (Kd.R (Kd.int .u8) 5 w' w.heap.size (fun _=>True) v6 j0)/\Aside0 (Below w.heap.size w w'))
 case atStart=>exact ⟨(([] :List Int)),(0),sd_,H',⟨Zv _⟩,⟨nl_⟩,⟨bl_⟩⟩
 clear H';clear r0 u0 v0;obtain ⟨j0,d0,rfl,HA,K0,g0,HB⟩:=hrel;rcases gk with _|k1
 ·exact Yf HA.o (by simp [aZz.l0])
 have H:=HA.o;clear HA;simp only [aZz.l0] at H;by_cases c4:d0<(l0.length:Int)
 rotate_left
 ·rw [Yb c4] at H;have D0:=Ze c4;clear c4;simp only [Zx,Zy] at H;obtain ⟨rfl,rfl⟩:=H;go_wp2;go_ret2;exact ⟨_,er_,xd_ g0.o,bl_⟩
 rw [Ya c4] at H;have D0:=Zd c4;clear c4;obtain ⟨R0,H⟩:=ih_ H;obtain ⟨N0,H⟩:=ih_ H;obtain ⟨C0,H⟩:=ij_ H;obtain ⟨B0,i0⟩: ∃y_:List Int,y_=(j0++ [Go.bits .xor .u8 (rd l0 d0) (rd l1 d0)]):=⟨_,rfl⟩
 first|rw [Zl, <-i0] at H|rw [<-i0] at H
 (try dsimp only at H)
 have t0:=Za i0;clear i0;have H':=Za H;clear H
 try go_wp2
 have n_:=Zb (Za (Kd.cBz g0.o)) (Za (b1z HB.o));clear g0 HB;obtain ⟨g0,HB⟩:=n_;have k0:0<=(d0:Int):=Zc as_;have o0:d0<(l0.length:Int):=Zc as_;obtain ⟨q0,F0,e0⟩:=Kd.ehz P0.o d0 k0 o0;have a0:=e0;cases F0
 replace e0:=(HB.o.cell (Zj w _ e0)).trans e0;replace k0:=Zz k0;replace o0:=Zz o0;have n0:0<=(d0:Int):=Zc as_;have p0:d0<(l1.length:Int):=Zc as_;obtain ⟨z0,E0,f0⟩:=Kd.ehz Q0.o d0 n0 p0;have b0:=f0;cases E0
 replace f0:=(HB.o.cell (Zj w _ f0)).trans f0;replace n0:=Zz n0;replace p0:=Zz p0;refine ccz (n:=13) (S:=fun w'=>w'.cell? (q0.add (d0).toNat)=some (.int .u8 (rd l0 d0))/\w'.cell? (z0.add (d0).toNat)=some (.int .u8 (rd l1 d0))) (ds:= []) (bA 13 0) kr_ rfl rfl ⟨((HB.o.cell (Zj w _ a0)).trans a0),((HB.o.cell (Zj w _ b0)).trans b0)⟩ (fun hHeld=> ?_);refine c9z aZz.tab7 aZz.bits7 (fun h0 H0=> ?_);generalize wr.drew=w8 at g0 HB e0 f0 hHeld|-;refine pv_ 0 19 1 h0 ?_;refine pv_ 1 20 3 h0 ?_;refine pv_ 2 21 7 h0 ?_;refine pv_ 3 22 15 h0 ?_;refine pv_ 5 24 47 h0 ?_;refine pv_ 6 25 111 h0 ?_;refine pv_ 7 26 239 h0 ?_;refine tw_ 4 23 255 h0 H0 hHeld ?_;refine tw_ 8 27 511 h0 H0 hHeld ?_;refine pv_ 9 28 1023 h0 ?_;refine one_ (i:=10) (N:=some 29) (bA 13 2047) rfl rfl (dgz h0.o kr_) (by decide) (fun K hK=> ?_);refine chz (w1:= ?_) (v:= ?_) (by rfl) rfl ?_ ?_
 rotate_left 2
 ·go_simp;constructor
  ·rfl
  ·rfl
 refine hK.out _ _ ⟨(World.cell?_alloc_lt _ _ _ (Zj _ _ (((HB.o.cell (Zj w _ a0)).trans a0)))).trans (((HB.o.cell (Zj w _ a0)).trans a0)),(World.cell?_alloc_lt _ _ _ (Zj _ _ (((HB.o.cell (Zj w _ b0)).trans b0)))).trans (((HB.o.cell (Zj w _ b0)).trans b0))⟩ (fun hHeld=> ?_);clear hK K;refine norm_ (a':= ?_) ?_ ?_;rotate_left
 ·show Act.put _ (some 29) _=_;simp only [Act.put,Zg,Zh,Zi,i64_w,i32_w];rfl
 refine one_ (i:=11) (N:=some 30) (bA 13 4095) rfl rfl (dgz h0.o kr_) (by decide) (fun K hK=> ?_);refine Kd.dIz (Kd.int .u8) (w0:=w) w.heap.size (by rfl) (.tmp 19) (.tmp 29) 34 5 (.int .u8 0) 1 rfl underlying34 info5 rfl (by decide) (by omega) u6 j0 (Go.bits .xor .u8 (rd l0 d0) (rd l1 d0)) [.int .u8 (Go.bits .xor .u8 (rd l0 d0) (rd l1 d0))] (fun _=>True) (fun _=>False) rfl rfl ?aP (fun _ hk=>hk.elim) ?aF ?aO ?aB ?aS ?aL ?_
 (case aP=>exact rfl)
 (case aB=>exact bl_)
 (case aF=>exact (fun _ _=>trivial))
 (case aO=>exact (xd_ g0.o))
 (case aS=>exact (adz bl_))
 (case aL=>have:=C0.o;omega)
 intro O0 w9 ho hb hg hat;rw [<-t0.o] at ho;have n_:=Zb (Za (hb)) (Za (ho));clear HB g0;obtain ⟨HB,y0⟩:=n_;clear ho hb hg hat;refine hK.out _ _ ⟨((HB.o.cell (Zj w _ a0)).trans a0),((HB.o.cell (Zj w _ b0)).trans b0)⟩ (fun hHeld=> ?_);clear hK K;refine norm_ (a':= ?_) ?_ ?_;rotate_left
 ·show Act.put _ (some 30) _=_;simp only [Act.put,Zg,Zh,Zi,i64_w,i32_w];rfl
 refine pv_ 12 6 8191 h0 ?_;refine done_ (dWz h0.o kr_) ?_
 try go_wp2
 go_roundg k1
 case measure=>have:=K0.o;omega
 case rel=>exact ⟨(B0),(wrap64 (d0+1)),sd_,H',⟨by have:=K0.o;omega⟩,⟨xd_ y0.o⟩,⟨bl_⟩⟩
def a0z.l0:Nat->List Int->List Int->Int->Int->Option (List Int×Bool)
 |0,_,_,_,_=>none
 |k+1,x1,x6,x7,x8=>if (wrap64 (x8+x7))<=(x1.length:Int) then (if 0<=x8 then (if x8<(x1.length:Int) then (if x7=2 then (if 0<=(wrap64 (x8+1)) then (if (wrap64 (x8+1))<(x1.length:Int) then (if x6.length<17592186044416 then (a0z.l0 k x1 (x6++ [wrap64 ((wrap64 (rd x1 x8))+(wrap64 (256*(wrap64 (rd x1 (wrap64 (x8+1)))))))]) x7 (wrap64 (x8+x7))) else (none)) else (none)) else (none)) else (if x6.length<17592186044416 then (a0z.l0 k x1 (x6++ [wrap64 (rd x1 x8)]) x7 (wrap64 (x8+x7))) else (none))) else (none)) else (none)) else (if x7=0 then (none) else (some (x6,(((x1.length:Int) % x7)==0))))
def a0z.f (k:Nat) (a0:Int) (l1:List Int):Option (List Int×Bool):=a0z.l0 k l1 ([] :List Int) (wrap64 (Int.tdiv a0 8)) 0
theorem a0z.calls (k:Nat) (a0:Int) (A1:Option Addr) (c1:Nat) (l1 r1:List Int) (r2:Bool) (w:World) (O0:Kd.C (Kd.int .u8) w A1 l1.length l1) (N0:l1.length<=c1) (h:a0z.f k a0 l1=some (r1,r2)):
  Calls prog 105 #[.int .i64 a0, .slice A1 l1.length c1] w fun e w'=> ∃K0:Value,e= .returned (.tuple #[K0, .bool r2])/\Kd.R (Kd.int .i64) 3 w' w.heap.size (fun _=>True) K0 r1/\Below w.heap.size w w':=by
 have I0:=Za O0;have Z0:=Za N0;clear O0 N0;have HB:=Za (Zw w.heap.size w);have H:=h;clear h;unfold a0z.f at H;have H':=Za H;clear H;go_enter func105,ntmps105;go_wp2
 repeat (go_quiet (fail);try go_wp2)
 go_loopg [6,8] k (fun kq v6 v8 w'=> ∃(c0:List Int) (b0:Int),v8= .int .i64 b0/\Aside0 (a0z.l0 kq l1 c0 (wrap64 (Int.tdiv a0 8)) b0=some (r1,r2))/\Aside0 (kq<=k)/\Aside0 (Kd.R (Kd.int .i64) 3 w' w.heap.size (fun _=>True) v6 c0)/\Aside0 (Below w.heap.size w w'))
 case atStart=>exact ⟨(([] :List Int)),(0),sd_,H',⟨Zv _⟩,⟨nl_⟩,⟨bl_⟩⟩
 clear H';obtain ⟨c0,b0,rfl,HA,z0,f0,HB⟩:=hrel;rcases gk with _|k1
 ·exact Yf HA.o (by simp [a0z.l0])
 have H:=HA.o;clear HA;simp only [a0z.l0] at H;by_cases c3:(wrap64 (b0+(wrap64 (Int.tdiv a0 8))))<=(l1.length:Int)
 rotate_left
 ·rw [Yb c3] at H;have B0:=Ze c3;clear c3;by_cases v0:(wrap64 (Int.tdiv a0 8))=0
  ·rw [Ya v0] at H;exact Yf H (by simp)
  ·rw [Yb v0] at H;have L0:((wrap64 (Int.tdiv a0 8))==0)=false:=Zq v0;have J0:((wrap64 (Int.tdiv a0 8)) !=0)=true:=Yd v0;simp only [Zx,Zy] at H;obtain ⟨rfl,rfl⟩:=H;go_wp2
   repeat (go_quiet (fail);try go_wp2)
   go_ret2;exact ⟨_,er_,xd_ f0.o,bl_⟩
 rw [Ya c3] at H;have B0:=Zd c3;clear c3;obtain ⟨R0,H⟩:=ih_ H;obtain ⟨W0,H⟩:=ih_ H;by_cases c6:(wrap64 (Int.tdiv a0 8))=2
 rotate_left
 ·rw [Yb c6] at H;have H0:((wrap64 (Int.tdiv a0 8))==2)=false:=Zq c6;have G0:((wrap64 (Int.tdiv a0 8)) !=2)=true:=Yd c6;obtain ⟨o0,H⟩:=ij_ H;obtain ⟨C0,e0⟩: ∃y_:List Int,y_=(c0++ [wrap64 (rd l1 b0)]):=⟨_,rfl⟩
  first|rw [Zl, <-e0] at H|rw [<-e0] at H
  (try dsimp only at H)
  have u0:=Za e0;clear e0;have H':=Za H;clear H;obtain ⟨i0,j0,g0,D0,E0⟩:=iy_ I0.o HB b0 as_ as_;cases j0
  go_wp2_with (first|((with_reducible refine amz (b:= .append) (xs:= #[.tmp 37, .tmp 39]) rfl ?_);at_builtin;refine Kd.brz (Kd.int .i64) (w0:=w) w.heap.size rfl (.tmp 37) (.tmp 39) 57 3 (.int .i64 0) 8 rfl underlying57 info3 rfl (by decide) (by omega) u6 c0 (wrap64 (rd l1 b0)) [.int .i64 (wrap64 (rd l1 b0))] (fun _=>True) (fun _=>False) rfl rfl rfl (fun _ hk=>hk.elim) (fun _ _=>trivial) (xd_ f0.o) bl_ (adz bl_) (by have:=o0.o;omega) ?_;intro V0 X0 ho hb hg hat;rw [<-u0.o] at ho;have n_:=Zb (Za (hb)) (Za (ho));clear HB f0;obtain ⟨HB,n0⟩:=n_;clear ho hb hg hat))
  go_roundg k1
  case measure=>have:=z0.o;omega
  case rel=>exact ⟨(C0),(wrap64 (b0+(wrap64 (Int.tdiv a0 8)))),sd_,H',⟨by have:=z0.o;omega⟩,⟨xd_ n0.o⟩,⟨bl_⟩⟩
 rw [Ya c6] at H;have H0:((wrap64 (Int.tdiv a0 8))==2)=true:=Ye c6;have G0:((wrap64 (Int.tdiv a0 8)) !=2)=false:=Yc c6;clear c6;obtain ⟨h0,k0⟩: ∃j_:Int,(wrap64 (b0+1))=j_:=⟨_,rfl⟩
 replace H:(if 0<=(h0) then (if (h0)<(l1.length:Int) then (if c0.length<17592186044416 then (a0z.l0 k1 l1 (c0++ [wrap64 ((wrap64 (rd l1 b0))+(wrap64 (256*(wrap64 (rd l1 (h0))))))]) (wrap64 (Int.tdiv a0 8)) (wrap64 (b0+(wrap64 (Int.tdiv a0 8))))) else (none)) else (none)) else (none))=some (r1,r2):=by first|(rw [k0] at H;exact H)|(simp only [k0] at H|-;exact H)
 have M0:(IntKind.i64.wrap (b0+1))=h0:=(i64_w _).trans k0;obtain ⟨S0,H⟩:=ih_ H;obtain ⟨T0,H⟩:=ih_ H;obtain ⟨q0,H⟩:=ij_ H;obtain ⟨A0,d0⟩: ∃y_:List Int,y_=(c0++ [wrap64 ((wrap64 (rd l1 b0))+(wrap64 (256*(wrap64 (rd l1 (h0))))))]):=⟨_,rfl⟩
 first|rw [Zl, <-d0] at H|rw [<-d0] at H
 (try dsimp only at H)
 have p0:=Za d0;clear d0;have H':=Za H;clear H;obtain ⟨i0,j0,g0,D0,E0⟩:=iy_ I0.o HB b0 as_ as_;cases j0
 obtain ⟨r0,F0,y0,Q0,P0⟩:=iy_ I0.o HB (h0) as_ as_;obtain rfl:i0=r0:=(by injection F0)
 go_wp2_with (first|((with_reducible refine amz (b:= .append) (xs:= #[.tmp 37, .tmp 39]) rfl ?_);at_builtin;refine Kd.brz (Kd.int .i64) (w0:=w) w.heap.size rfl (.tmp 37) (.tmp 39) 57 3 (.int .i64 0) 8 rfl underlying57 info3 rfl (by decide) (by omega) u6 c0 (wrap64 ((wrap64 (rd l1 b0))+(wrap64 (256*(wrap64 (rd l1 (h0))))))) [.int .i64 (wrap64 ((wrap64 (rd l1 b0))+(wrap64 (256*(wrap64 (rd l1 (h0)))))))] (fun _=>True) (fun _=>False) rfl rfl rfl (fun _ hk=>hk.elim) (fun _ _=>trivial) (xd_ f0.o) bl_ (adz bl_) (by have:=q0.o;omega) ?_;intro U0 Y0 ho hb hg hat;rw [<-p0.o] at ho;have n_:=Zb (Za (hb)) (Za (ho));clear HB f0;obtain ⟨HB,t0⟩:=n_;clear ho hb hg hat))
 go_roundg k1
 case measure=>have:=z0.o;omega
 case rel=>exact ⟨(A0),(wrap64 (b0+(wrap64 (Int.tdiv a0 8)))),sd_,H',⟨by have:=z0.o;omega⟩,⟨xd_ t0.o⟩,⟨bl_⟩⟩
def a1z.l0:Nat->Int->List Int->List Int->Int->Option (List Int×Bool)
 |0,_,_,_,_=>none
 |k+1,x0,x1,x6,x7=>if x7<(x1.length:Int) then (if 0<=x7 then ((afz.f k x0 (rd x1 x7)).bind fun t420=>(if t420=true then (if x6.length<140737488355328 then ((some (x6++ [(Int.tmod (rd x1 x7) 256) % 256] :List Int)).bind fun y422=>(if x0=16 then (if y422.length<140737488355328 then (a1z.l0 k x0 x1 (y422++ [(wrap64 (Int.tdiv (rd x1 x7) 256)) % 256]) (wrap64 (x7+1))) else (none)) else (a1z.l0 k x0 x1 y422 (wrap64 (x7+1))))) else (none)) else (some (([] :List Int),false)))) else (none)) else (some (x6,true))
def a1z.f (k:Nat) (a0:Int) (l1:List Int):Option (List Int×Bool):=a1z.l0 k a0 l1 ([] :List Int) 0
theorem a1z.calls (k:Nat) (a0:Int) (A1:Option Addr) (c1:Nat) (l1 r1:List Int) (r2:Bool) (w:World) (P0:Kd.C (Kd.int .i64) w A1 l1.length l1) (O0:l1.length<=c1) (h:a1z.f k a0 l1=some (r1,r2)):
  Calls prog 108 #[.int .i64 a0, .slice A1 l1.length c1] w fun e w'=> ∃N0:Value,e= .returned (.tuple #[N0, .bool r2])/\Kd.R (Kd.int .u8) 5 w' w.heap.size (fun _=>True) N0 r1/\Below w.heap.size w w':=by
 have r0:=Za P0;have X0:=Za O0;clear P0 O0;have HB:=Za (Zw w.heap.size w);have H:=h;clear h;unfold a1z.f at H;have H':=Za H;clear H;go_enter func108,ntmps108;go_wp2
 go_loopg [6,7] k (fun kq v6 v7 w'=> ∃(h0:List Int) (b0:Int),v7= .int .i64 b0/\Aside0 (a1z.l0 kq a0 l1 h0 b0=some (r1,r2))/\Aside0 (kq<=k)/\Aside0 (Kd.R (Kd.int .u8) 5 w' w.heap.size (fun _=>True) v6 h0)/\Aside0 (Below w.heap.size w w'))
 case atStart=>exact ⟨(([] :List Int)),(0),sd_,H',⟨Zv _⟩,⟨nl_⟩,⟨bl_⟩⟩
 clear H';obtain ⟨h0,b0,rfl,HA,D0,j0,HB⟩:=hrel;rcases gk with _|k1
 ·exact Yf HA.o (by simp [a1z.l0])
 have H:=HA.o;clear HA;simp only [a1z.l0] at H;by_cases c3:b0<(l1.length:Int)
 rotate_left
 ·rw [Yb c3] at H;have G0:=Ze c3;clear c3;simp only [Zx,Zy] at H;obtain ⟨rfl,rfl⟩:=H;go_wp2;go_ret2;exact ⟨_,er_,xd_ j0.o,bl_⟩
 rw [Ya c3] at H;have G0:=Zd c3;clear c3;obtain ⟨Q0,H⟩:=ih_ H;obtain ⟨F0,A5,H⟩:=ob_ H
 (try dsimp only at H)
 by_cases c6:F0=true
 rotate_left
 ·replace c6:=Zr c6;subst c6;rw [Yb (show¬(false=true) by decide)] at H;simp only [Zx,Zy] at H;obtain ⟨rfl,rfl⟩:=H;obtain ⟨c0,k0,f0,t0,u0⟩:=iy_ r0.o HB b0 as_ as_;cases k0
  go_wp2_with (first|((with_reducible refine aaz (f:=106) rfl ?_);refine gl_ (some 19) func106 #[.int .i64 a0, .int .i64 (rd l1 b0)] ?_;(with_reducible refine (afz.calls k1 a0 (rd l1 b0) false _ A5.o).mono ?_);rintro e w' ⟨rfl,⟨nd,rfl⟩⟩;refine ⟨_,rfl,?_⟩))
  go_ret2;exact ⟨_,er_,nl_,bl_⟩
 subst c6;rw [Ya rfl] at H;obtain ⟨z0,H⟩:=ij_ H;obtain ⟨q0,d0⟩: ∃y_:List Int,y_=(h0++ [(Int.tmod (rd l1 b0) 256) % 256]):=⟨_,rfl⟩
 first|rw [Zl, <-d0] at H|rw [<-d0] at H
 (try dsimp only at H)
 have o0:=Za d0;clear d0;by_cases c8:a0=16
 rotate_left
 ·rw [Yb c8] at H;have K0:(a0==16)=false:=Zq c8;have E0:(a0 !=16)=true:=Yd c8;have H':=Za H;clear H;obtain ⟨c0,k0,f0,t0,u0⟩:=iy_ r0.o HB b0 as_ as_;cases k0
  go_wp2_with (first|((with_reducible refine aaz (f:=106) rfl ?_);refine gl_ (some 19) func106 #[.int .i64 a0, .int .i64 (rd l1 b0)] ?_;(with_reducible refine (afz.calls k1 a0 (rd l1 b0) true _ A5.o).mono ?_);rintro e w' ⟨rfl,⟨nd,rfl⟩⟩;refine ⟨_,rfl,?_⟩;obtain ⟨i0,p0,n0,M0,L0⟩:=iy_ r0.o HB b0 as_ as_;obtain rfl:c0=i0:=(by injection p0))|((with_reducible refine amz (b:= .append) (xs:= #[.tmp 21, .tmp 28]) rfl ?_);at_builtin;refine Kd.brz (Kd.int .u8) (w0:=w) w.heap.size rfl (.tmp 21) (.tmp 28) 34 5 (.int .u8 0) 1 rfl underlying34 info5 rfl (by decide) (by omega) u6 h0 ((Int.tmod (rd l1 b0) 256) % 256) [.int .u8 ((Int.tmod (rd l1 b0) 256) % 256)] (fun _=>True) (fun _=>False) rfl rfl rfl (fun _ hk=>hk.elim) (fun _ _=>trivial) (xd_ j0.o) bl_ (adz bl_) (by have:=z0.o;omega) ?_;intro A0 U0 ho hb hg hat;rw [<-o0.o] at ho;have n_:=Zb (Za (hb)) (Za (ho));clear HB j0;obtain ⟨HB,g0⟩:=n_;clear ho hb hg hat))
  go_roundg k1
  case measure=>have:=D0.o;omega
  case rel=>exact ⟨(q0),(wrap64 (b0+1)),sd_,H',⟨by have:=D0.o;omega⟩,⟨xd_ g0.o⟩,⟨bl_⟩⟩
 rw [Ya c8] at H;have K0:(a0==16)=true:=Ye c8;have E0:(a0 !=16)=false:=Yc c8;clear c8;obtain ⟨I0,H⟩:=ij_ H;obtain ⟨J0,e0⟩: ∃y_:List Int,y_=(q0++ [(wrap64 (Int.tdiv (rd l1 b0) 256)) % 256]):=⟨_,rfl⟩
 first|rw [Zl, <-e0] at H|rw [<-e0] at H
 (try dsimp only at H)
 have B0:=Za e0;clear e0;have H':=Za H;clear H;obtain ⟨c0,k0,f0,t0,u0⟩:=iy_ r0.o HB b0 as_ as_;cases k0
 go_wp2_with (first|((with_reducible refine aaz (f:=106) rfl ?_);refine gl_ (some 19) func106 #[.int .i64 a0, .int .i64 (rd l1 b0)] ?_;(with_reducible refine (afz.calls k1 a0 (rd l1 b0) true _ A5.o).mono ?_);rintro e w' ⟨rfl,⟨nd,rfl⟩⟩;refine ⟨_,rfl,?_⟩;obtain ⟨i0,p0,n0,M0,L0⟩:=iy_ r0.o HB b0 as_ as_;obtain rfl:c0=i0:=(by injection p0))|((with_reducible refine amz (b:= .append) (xs:= #[.tmp 21, .tmp 28]) rfl ?_);at_builtin;refine Kd.brz (Kd.int .u8) (w0:=w) w.heap.size rfl (.tmp 21) (.tmp 28) 34 5 (.int .u8 0) 1 rfl underlying34 info5 rfl (by decide) (by omega) u6 h0 ((Int.tmod (rd l1 b0) 256) % 256) [.int .u8 ((Int.tmod (rd l1 b0) 256) % 256)] (fun _=>True) (fun _=>False) rfl rfl rfl (fun _ hk=>hk.elim) (fun _ _=>trivial) (xd_ j0.o) bl_ (adz bl_) (by have:=z0.o;omega) ?_;intro A0 W0 ho hb hg hat;rw [<-o0.o] at ho;have n_:=Zb (Za (hb)) (Za (ho));clear HB j0;obtain ⟨HB,g0⟩:=n_;clear ho hb hg hat;obtain ⟨v0,H0,C0,T0,S0⟩:=iy_ r0.o HB b0 as_ as_;obtain rfl:c0=v0:=(by injection H0))|((with_reducible refine amz (b:= .append) (xs:= #[.tmp 32, .tmp 39]) rfl ?_);at_builtin;refine Kd.brz (Kd.int .u8) (w0:=w) w.heap.size rfl (.tmp 32) (.tmp 39) 34 5 (.int .u8 0) 1 rfl underlying34 info5 rfl (by decide) (by omega) A0 q0 ((wrap64 (Int.tdiv (rd l1 b0) 256)) % 256) [.int .u8 ((wrap64 (Int.tdiv (rd l1 b0) 256)) % 256)] (fun _=>True) (fun _=>False) rfl rfl rfl (fun _ hk=>hk.elim) (fun _ _=>trivial) (xd_ g0.o) bl_ (adz bl_) (by have:=I0.o;omega) ?_;intro R0 V0 ho hb hg hat;rw [<-B0.o] at ho;have n_:=Zb (Za (hb)) (Za (ho));clear HB g0;obtain ⟨HB,y0⟩:=n_;clear ho hb hg hat))
 go_roundg k1
 case measure=>have:=D0.o;omega
 case rel=>exact ⟨(J0),(wrap64 (b0+1)),sd_,H',⟨by have:=D0.o;omega⟩,⟨xd_ y0.o⟩,⟨bl_⟩⟩
end Go.Proofs.Xc
end
