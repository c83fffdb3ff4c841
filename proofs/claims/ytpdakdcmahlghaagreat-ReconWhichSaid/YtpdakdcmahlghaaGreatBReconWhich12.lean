-- Joined texts of this work (wip/tools/bundle.py).
import Derived.Test.YtpdakdcmahlghaaGreatBReconWhich11
set_option maxHeartbeats 8000000
set_option maxRecDepth 100000
set_option linter.unusedVariables false
set_option linter.unusedSimpArgs false
section
namespace Go.Proofs.Xc
open Go.RowKit Go.Proofs.Pw Go.Proofs.Pl Go.Proofs.Pm Tryz
attribute [local go_sem] a7z a8z bgz bhz aVz aWz a9z baz
mutual
def a4z.j0:Nat->Int->Int->Int->List Int->Bool->Option (List Int×Bool)
 |0,_,_,_,_,_=>none
 |k+1,x0,x1,x2,x10,x27=>if x27=true then (some (([] :List Int),false)) else (a4z.l0 k x0 x1 x2 x10 ([] :List Int) 0)
def a4z.l0:Nat->Int->Int->Int->List Int->List Int->Int->Option (List Int×Bool)
 |0,_,_,_,_,_,_=>none
 |k+1,x0,x1,x2,x10,x12,x13=>if x13<(x10.length:Int) then (if 0<=x13 then ((aBz.f k x0 x1 x2 (rd x10 x13)).bind fun t435=>(if x12.length<17592186044416 then (a4z.l0 k x0 x1 x2 x10 (x12++ [t435]) (wrap64 (x13+1))) else (none))) else (none)) else ((a1z.f k x0 x12).bind fun bt439=>(some (bt439.1,bt439.2)))
end
def a4z.f (k:Nat) (a0 a1 a2:Int) (l3:List Int):Option (List Int×Bool):=(a0z.f k a0 l3).bind fun bt429=>(if bt429.2=true then ((afz.f k a0 a2).bind fun t433=>(a4z.j0 k a0 a1 a2 bt429.1 (!t433))) else (a4z.j0 k a0 a1 a2 bt429.1 true))
theorem a4z.calls (k:Nat) (a0 a1 a2:Int) (A3:Option Addr) (c3:Nat) (l3 r1:List Int) (r2:Bool) (w:World) (O0:Kd.C (Kd.int .u8) w A3 l3.length l3) (T0:l3.length<=c3) (h:a4z.f k a0 a1 a2 l3=some (r1,r2)):
  Calls prog 71 #[.int .i64 a0, .int .u32 a1, .int .i64 a2, .slice A3 l3.length c3] w fun e w'=> ∃P0:Value,e= .returned (.tuple #[P0, .bool r2])/\Kd.R (Kd.int .u8) 5 w' w.heap.size (fun _=>True) P0 r1/\Below w.heap.size w w':=by
 have Y0:=Za O0;have W0:=Za T0;clear O0 T0;have HB:=Za (Zw w.heap.size w);have H:=h;clear h;unfold a4z.f at H;obtain ⟨⟨f0,t0⟩,A5,H⟩:=ob_ H
 (try dsimp only at H)
 have G0:=Za H;clear H;go_enter func71,ntmps71
 go_upto_region 2 with (first|((with_reducible refine aaz (f:=105) rfl ?_);refine gl_ (some 17) func105 #[.int .i64 a0, .slice A3 l3.length c3] ?_;(with_reducible refine (a0z.calls k a0 _ _ l3 f0 t0 _ (xd_ Y0.o) (W0.o) A5.o).mono ?_);rintro e w7 ⟨n0,rfl,A0,hb⟩;refine ⟨_,rfl,?_⟩;have n_:=Zb (Za (Kd.bCz A0 (adz bl_))) (hs_ HB hb);clear HB;obtain ⟨k0,HB⟩:=n_;clear hb A0))
 (try simp only [Act.put,Zg,Zh,Zi])
 go_cut [27] (fun j1 wc=> ∃(kq:Nat) (h0:Bool),j1= .bool h0/\Aside0 (a4z.j0 kq a0 a1 a2 f0 h0=some (r1,r2))/\Aside0 (kq<=k)/\Aside0 (Kd.R (Kd.int .i64) 3 wc w.heap.size (fun _=>True) n0 f0)/\Aside0 (Below w.heap.size w wc))
 case first=>
  have H:=G0.o;clear G0;by_cases c8:t0=true
  ·subst c8;rw [Ya rfl] at H;obtain ⟨r0,A9,H⟩:=ob_ H
   (try dsimp only at H)
   have H':=Za H;clear H
   go_wp2_with (first|(go_at_call 106;(with_reducible refine (afz.calls k a0 a2 r0 _ A9.o).mono ?_);rintro e w' ⟨rfl,⟨nd,rfl⟩⟩))
   go_meet
   case rel=>exact ⟨_,(!r0),sd_,H',⟨by first|omega|exact Zv _⟩,⟨xd_ k0.o⟩,⟨bl_⟩⟩
  ·replace c8:=Zr c8;subst c8;rw [Yb (show¬(false=true) by decide)] at H;have H':=Za H;clear H;go_wp2
   go_meet
   case rel=>exact ⟨_,(true),sd_,H',⟨by first|omega|exact Zv _⟩,⟨xd_ k0.o⟩,⟨bl_⟩⟩
 case rest=>
  clear G0;obtain ⟨kq,h0,rfl,HA,S0,b0,HB⟩:=hcut;rcases kq with _|R0
  ·exact Yf HA.o (by simp [a4z.j0])
  have H:=HA.o;clear HA;simp only [a4z.j0] at H;by_cases C0:h0=true
  ·subst C0;rw [Ya rfl] at H;simp only [Zx,Zy] at H;obtain ⟨rfl,rfl⟩:=H;go_wp2;go_ret2;exact ⟨_,er_,nl_,bl_⟩
  ·replace C0:=Zr C0;subst C0;rw [Yb (show¬(false=true) by decide)] at H;have H':=Za H;clear H;go_wp2
   go_loopg [12,13] R0 (fun kq Q0 b1 w'=> ∃(e0:List Int) (d0:Int),b1= .int .i64 d0/\Aside0 (a4z.l0 kq a0 a1 a2 f0 e0 d0=some (r1,r2))/\Aside0 (kq<=R0)/\Aside0 (Kd.R (Kd.int .i64) 3 w' w.heap.size (fun k_=>some k_≠(Q0:Value).ownBlock) n0 f0)/\Aside0 (Kd.R (Kd.int .i64) 3 w' w.heap.size (fun k_=>some k_≠(n0:Value).ownBlock) Q0 e0)/\Aside0 (Below w.heap.size w w'))
   case atStart=>exact ⟨(([] :List Int)),(0),sd_,H',⟨Zv _⟩,⟨rm_ b0⟩,⟨nl_⟩,⟨bl_⟩⟩
   clear H';obtain ⟨e0,d0,rfl,HA,V0,b0,c0,HB⟩:=hrel;rcases gk with _|k2
   ·exact Yf HA.o (by simp [a4z.l0])
   have H:=HA.o;clear HA;simp only [a4z.l0] at H;by_cases o0:d0<(f0.length:Int)
   rotate_left
   ·rw [Yb o0] at H;have q0:=Ze o0;clear o0;obtain ⟨⟨M0,K0⟩,g1,H⟩:=ob_ H
    (try dsimp only at H)
    simp only [Zx,Zy] at H;obtain ⟨rfl,rfl⟩:=H;obtain ⟨i1,c1,F0⟩:=Kd.aQz b0.o;subst F0;obtain ⟨D0,L0,N0⟩:=Kd.aQz c0.o;subst N0
    go_wp2_with (first|((with_reducible refine aaz (f:=108) rfl ?_);refine gl_ (some 47) func108 #[.int .i64 a0, .slice D0 e0.length L0] ?_;(with_reducible refine (a1z.calls k2 a0 _ _ e0 M0 K0 _ (xd_ (Kd.aHz c0.o).2.2) ((Kd.aHz c0.o).2.1) g1.o).mono ?_);rintro e m1 ⟨e1,rfl,A0,hb⟩;refine ⟨_,rfl,?_⟩;have n_:=Zb (Za (Kd.ckz (xd_ b0.o) hb)) (Zb (Za (Kd.ckz (xd_ c0.o) hb)) (Zb (Za (Kd.bCz A0 (adz bl_))) (hs_ HB hb)));clear b0 c0 HB;obtain ⟨b0,c0,v0,HB⟩:=n_;clear hb A0))
    go_ret2;exact ⟨_,er_,xd_ v0.o,bl_⟩
   rw [Ya o0] at H;have q0:=Zd o0;clear o0;obtain ⟨U0,H⟩:=ih_ H;obtain ⟨i0,f1,H⟩:=ob_ H
   (try dsimp only at H)
   obtain ⟨u0,H⟩:=ij_ H;obtain ⟨J0,g0⟩: ∃y_:List Int,y_=(e0++ [i0]):=⟨_,rfl⟩
   first|rw [Zl, <-g0] at H|rw [<-g0] at H
   (try dsimp only at H)
   have z0:=Za g0;clear g0;have H':=Za H;clear H;obtain ⟨X0,E0,H0⟩:=Kd.aQz b0.o;subst H0;obtain ⟨p0,I0,B0,d1,Z0⟩:=ix_ (Kd.aHz b0.o).2.2 d0 as_ as_;cases I0
   go_wp2_with (first|((with_reducible refine aaz (f:=107) rfl ?_);refine gl_ (some 42) func107 #[.int .i64 a0, .int .u32 a1, .int .i64 a2, .int .i64 (rd f0 d0)] ?_;(with_reducible refine (aBz.calls k2 a0 a1 a2 (rd f0 d0) i0 _ f1.o).mono ?_);rintro e w' ⟨rfl,⟨nd,rfl⟩⟩;refine ⟨_,rfl,?_⟩)|((with_reducible refine amz (b:= .append) (xs:= #[.tmp 34, .tmp 43]) rfl ?_);at_builtin;refine Kd.brz (Kd.int .i64) (w0:=w) w.heap.size rfl (.tmp 34) (.tmp 43) 57 3 (.int .i64 0) 8 rfl underlying57 info3 rfl (by decide) (by omega) u12 e0 i0 [.int .i64 i0] (fun k_=>some k_≠(.slice (some p0) f0.length E0:Value).ownBlock) (fun _=>False) rfl rfl rfl (fun _ hk=>hk.elim) (fun k_ hk=>Kd.fresh' (Kd.R_lt (xd_ b0.o)) k_ hk) (xd_ c0.o) bl_ (adz bl_) (by have:=u0.o;omega) ?_;intro k1 l1 ho hb hg hat;rw [<-z0.o] at ho;have n_:=Zb (Za (Kd.d5z (ok:=(fun _=>True)) (rm_ b0) hg hat)) (Zb (Za (hb)) (Za (ho)));clear b0 HB c0;obtain ⟨b0,HB,y0⟩:=n_;clear ho hb hg hat))
   go_roundg k2
   case measure=>have:=S0.o;have:=V0.o;omega
   case rel=>exact ⟨(J0),(wrap64 (d0+1)),sd_,H',⟨by have:=S0.o;have:=V0.o;omega⟩,⟨rm_ b0⟩,⟨xd_ y0.o⟩,⟨bl_⟩⟩
mutual
def alz.j0:Nat->Int->Int->List Int->List (List Int)->Bool->Option (List Int×Bool)
 |0,_,_,_,_,_=>none
 |k+1,x0,x1,x2,x3,x25=>if x25=true then (some (([] :List Int),false)) else (alz.l0 k x0 x1 x2 x3 ([] :List Int) 0)
def alz.l0:Nat->Int->Int->List Int->List (List Int)->List Int->Int->Option (List Int×Bool)
 |0,_,_,_,_,_,_=>none
 |k+1,x0,x1,x2,x3,x10,x11=>if x11<(x2.length:Int) then (if 0<=x11 then (if x11<(x3.length:Int) then ((a4z.f k x0 x1 (rd x2 x11) (rd_L1 x3 x11)).bind fun bt445=>(if bt445.2=true then (if 0<(x3.length:Int) then (alz.j2 k x0 x1 x2 x3 x10 x11 bt445.1 (((rd_L1 x3 x11).length:Int) !=((rd_L1 x3 0).length:Int))) else (none)) else (alz.j2 k x0 x1 x2 x3 x10 x11 bt445.1 true))) else (none)) else (none)) else (some (x10,true))
def alz.j2:Nat->Int->Int->List Int->List (List Int)->List Int->Int->List Int->Bool->Option (List Int×Bool)
 |0,_,_,_,_,_,_,_,_=>none
 |k+1,x0,x1,x2,x3,x10,x11,x12,x59=>if x59=true then (some (([] :List Int),false)) else (if x11=0 then (alz.l0 k x0 x1 x2 x3 x12 (wrap64 (x11+1))) else ((aZz.f k x10 x12).bind fun bt451=>(alz.l0 k x0 x1 x2 x3 bt451.1 (wrap64 (x11+1)))))
end
def alz.f (k:Nat) (a0 a1:Int) (l2:List Int) (l3:List (List Int)):Option (List Int×Bool):=if (l2.length:Int)=(l3.length:Int) then (alz.j0 k a0 a1 l2 l3 ((l2.length:Int)==0)) else (alz.j0 k a0 a1 l2 l3 true)
def alz.T7:Bool×List (List Nat×List Nat):=(true, [([], []),([], []),([], []),([], []),([2,3], [2,3]),([4], [4]),([], []),([], []),([6,7], [6,7]),([8], [8]),([0,1,5,9], [0,1,5,9]),([10], [10]),([11], [11]),([11], [11]),([12,10,0,1,2,3,4,5,6,7,8,9,10,11,12], [12]),([13,14,0,1,2,3,4,5,6,7,8,9,10,11,12,13,14], [13])])
def alz.B7:List Nat:= [0,0,0,0,12,28,0,0,192,448,1023,2047,4095,4095,8191,32767]
theorem alz.tab7:rtab .any (opsOf Tryz.f52 7)=alz.T7:=by kernel_rfl
theorem alz.bits7:waitsOk alz.T7.2 alz.B7=true:=by kernel_rfl
def alz.T8:Bool×List (List Nat×List Nat):=(true, [([], []),([0], [0]),([1], [1]),([2], [2]),([2], [2]),([3,4,2], [2,3,4]),([5,2], [2,5]),([6,2], [2,6]),([2], [2]),([8,2], [2,8]),([9,2], [2,9]),([10,2], [2,10]),([7,11,2], [2,7,11]),([2,12], [2,12])])
def alz.B8:List Nat:= [0,1,3,7,7,31,63,127,7,263,775,1799,4095,8191]
theorem alz.tab8:rtab .any (opsOf Tryz.f52 8)=alz.T8:=by kernel_rfl
theorem alz.bits8:waitsOk alz.T8.2 alz.B8=true:=by kernel_rfl
theorem alz.calls (k:Nat) (a0 a1:Int) (A2:Option Addr) (c2:Nat) (l2:List Int) (A3:Option Addr) (c3:Nat) (l3:List (List Int)) (r1:List Int) (r2:Bool) (w:World) (S1:Kd.C (Kd.int .i64) w A2 l2.length l2) (U1:l2.length<=c2) (P1:Kd.C (Kd.slice 5 (Kd.int .u8)) w A3 l3.length l3) (Q1:l3.length<=c3) (h:alz.f k a0 a1 l2 l3=some (r1,r2)):
  Calls prog 52 #[.int .i64 a0, .int .u32 a1, .slice A2 l2.length c2, .slice A3 l3.length c3] w fun e w'=> ∃R1:Value,e= .returned (.tuple #[R1, .bool r2])/\Kd.R (Kd.int .u8) 5 w' w.heap.size (fun _=>True) R1 r1/\Below w.heap.size w w':=by
 have a2:=Za S1;have n2:=Za U1;clear S1 U1;have L1:=Za P1;have o2:=Za Q1;clear P1 Q1;have HB:=Za (Zw w.heap.size w);have H:=h;clear h;unfold alz.f at H;have N1:=Za H;clear H;go_enter func52,ntmps52
 go_upto_region 1 with (fail)
 go_cut [25] (fun m2 wc=> ∃(kq:Nat) (v0:Bool),m2= .bool v0/\Aside0 (alz.j0 kq a0 a1 l2 l3 v0=some (r1,r2))/\Aside0 (kq<=k)/\Aside0 (Below w.heap.size w wc))
 case first=>
  have H:=N1.o;clear N1;by_cases c6:(l2.length:Int)=(l3.length:Int)
  ·rw [Ya c6] at H;have J1:((l2.length:Int)==(l3.length:Int))=true:=Ye c6;have C1:((l2.length:Int) !=(l3.length:Int))=false:=Yc c6
   have D1:(l2.length==l3.length)=true:=by first|simpa using c6|(simp at c6|-;omega)
   clear c6;have H':=Za H;clear H;go_wp2
   go_meet
   case rel=>exact ⟨_,(((l2.length:Int)==0)),sd_,H',⟨by first|omega|exact Zv _⟩,⟨bl_⟩⟩
  ·rw [Yb c6] at H;have J1:((l2.length:Int)==(l3.length:Int))=false:=Zq c6;have C1:((l2.length:Int) !=(l3.length:Int))=true:=Yd c6
   have D1:(l2.length==l3.length)=false:=by first|simpa using c6|(simp at c6|-;omega)
   have H':=Za H;clear H;go_wp2
   go_meet
   case rel=>exact ⟨_,(true),sd_,H',⟨by first|omega|exact Zv _⟩,⟨bl_⟩⟩
 case rest=>
  clear N1;obtain ⟨kq,v0,rfl,HA,d1,HB⟩:=hcut;rcases kq with _|W1
  ·exact Yf HA.o (by simp [alz.j0])
  have H:=HA.o;clear HA;simp only [alz.j0] at H;by_cases c7:v0=true
  ·subst c7;rw [Ya rfl] at H;simp only [Zx,Zy] at H;obtain ⟨rfl,rfl⟩:=H;go_wp2;go_ret2;exact ⟨_,er_,nl_,bl_⟩
  ·replace c7:=Zr c7;subst c7;rw [Yb (show¬(false=true) by decide)] at H;have H':=Za H;clear H;go_wp2
   go_loopg [10,11] W1 (fun kq e2 d2 w'=> ∃(q0:List Int) (b0:Int),d2= .int .i64 b0/\Aside0 (alz.l0 kq a0 a1 l2 l3 q0 b0=some (r1,r2))/\Aside0 (kq<=W1)/\Aside0 (Kd.R (Kd.int .u8) 5 w' w.heap.size (fun _=>True) e2 q0)/\Aside0 (Below w.heap.size w w'))
   case atStart=>exact ⟨(([] :List Int)),(0),sd_,H',⟨Zv _⟩,⟨nl_⟩,⟨bl_⟩⟩
   clear H';obtain ⟨q0,b0,rfl,HA,e1,c0,HB⟩:=hrel;rcases gk with _|k2
   ·exact Yf HA.o (by simp [alz.l0])
   have H:=HA.o;clear HA;simp only [alz.l0] at H;by_cases c8:b0<(l2.length:Int)
   rotate_left
   ·rw [Yb c8] at H;have k1:=Ze c8;clear c8;simp only [Zx,Zy] at H;obtain ⟨rfl,rfl⟩:=H;go_wp2;go_ret2;exact ⟨_,er_,xd_ c0.o,bl_⟩
   rw [Ya c8] at H;have k1:=Zd c8;clear c8;obtain ⟨I1,H⟩:=ih_ H;obtain ⟨q1,H⟩:=ih_ H;obtain ⟨⟨E0,p1⟩,i2,H⟩:=ob_ H
   (try dsimp only at H)
   have R0:=Za H;clear H
   try go_wp2
   have n_:=Zb (Za (Kd.cBz c0.o)) (Za (b1z HB.o));clear c0 HB;obtain ⟨c0,HB⟩:=n_;have M0:0<=(b0:Int):=Zc as_;have H0:b0<(l2.length:Int):=Zc as_;obtain ⟨l1,O1,f0⟩:=Kd.ehz a2.o b0 M0 H0;have p0:=f0;cases O1
   replace f0:=(HB.o.cell (Zj w _ f0)).trans f0;replace M0:=Zz M0;replace H0:=Zz H0;have K0:0<=(b0:Int):=Zc as_;have J0:b0<(l3.length:Int):=Zc as_;obtain ⟨t0,F0,G0,A1,g0,w0,A0⟩:=at_L1 L1.o b0 K0 J0;have o0:=g0;cases A1
   replace g0:=(HB.o.cell (Zj w _ g0)).trans g0;have D0:=Za A0;have L0:=Za w0;clear A0 w0;replace K0:=Zz K0;replace J0:=Zz J0;refine ccz (n:=16) (S:=fun w'=>w'.cell? (l1.add (b0).toNat)=some (.int .i64 (rd l2 b0))/\w'.cell? (t0.add (b0).toNat)=some (.slice F0 (rd_L1 l3 b0).length G0)) (ds:= []) (bA 16 0) kr_ rfl rfl ⟨((HB.o.cell (Zj w _ p0)).trans p0),((HB.o.cell (Zj w _ o0)).trans o0)⟩ (fun hHeld=> ?_);refine c9z alz.tab7 alz.bits7 (fun d0 c1=> ?_);generalize wr.drew=w13 at c0 HB D0 f0 g0 hHeld|-;refine pv_ 0 33 1 d0 ?_;refine pv_ 1 34 3 d0 ?_;refine pv_ 2 35 7 d0 ?_;refine pv_ 3 36 15 d0 ?_;refine pv_ 4 37 31 d0 ?_;refine pv_ 6 39 95 d0 ?_;refine pv_ 7 40 223 d0 ?_;refine pv_ 8 41 479 d0 ?_;refine tw_ 5 38 511 d0 c1 hHeld ?_;refine tw_ 9 42 1023 d0 c1 hHeld ?_
   refine one_ (i:=10) (N:=some 43) (bA 16 2047) rfl rfl (dgz d0.o kr_) (by decide) (fun K hK=> ?_);refine goes_ func71 kr_ rfl #[.int .i64 a0, .int .u32 a1, .int .i64 (rd l2 b0), .slice F0 (rd_L1 l3 b0).length G0] (by rfl) rfl rfl ar_ ?_
   with_reducible refine (a4z.calls k2 a0 a1 (rd l2 b0) _ _ (rd_L1 l3 b0) E0 p1 _ ?side1 ?side2 i2.o).mono ?_
   (case side1=>repeat (first|exact (Kd.aMz D0.o HB.o)|(with_reducible refine Kd.cez ?_ _)|(with_reducible refine Kd.bEz ?_ _)|(with_reducible refine Kd.cpz ?_)))
   (case side2=>exact L0.o)
   rintro e Y1 ⟨o1,rfl,P0,hb⟩;refine ⟨_,rfl,?_⟩;have n_:=Zb (Za (Kd.dNz (xd_ c0.o) (Kd.cbz P0) hb)) (Zb (Za (Kd.bCz (Kd.R_new' P0 (Kd.R_lt (xd_ c0.o))) (adz bl_))) (hs_ HB hb));clear c0 HB;obtain ⟨c0,h0,HB⟩:=n_
   (try clear hb)
   (try clear hb2)
   (try clear hk)
   (try clear hi)
   (try clear P0)
   refine hK.out _ _ ⟨((HB.o.cell (Zj w _ p0)).trans p0),((HB.o.cell (Zj w _ o0)).trans o0)⟩ (fun hHeld=> ?_);clear hK K;refine norm_ (a':= ?_) ?_ ?_;rotate_left
   ·show Act.put _ (some 43) _=_;simp only [Act.put,Zg,Zh,Zi,i64_w,i32_w];rfl
   refine pv_ 11 32 4095 d0 ?_;refine pv_ 12 44 8191 d0 ?_;refine pv_ 13 45 16383 d0 ?_;refine pv_ 14 12 32767 d0 ?_;refine pv_ 15 13 65535 d0 ?_;refine done_ (dWz d0.o kr_) ?_
   go_upto_region 8 with (fail)
   go_cut [59] (fun g2 wc=> ∃(kq:Nat) (r0:Bool),g2= .bool r0/\Aside0 (alz.j2 kq a0 a1 l2 l3 q0 b0 E0 r0=some (r1,r2))/\Aside0 (kq<=k2)/\Aside0 (Kd.R (Kd.int .u8) 5 wc w.heap.size (fun k_=>some k_≠(o1:Value).ownBlock) u10 q0)/\Aside0 (Kd.R (Kd.int .u8) 5 wc w.heap.size (fun k_=>some k_≠(u10:Value).ownBlock) o1 E0)/\Aside0 (Below w.heap.size w wc))
   case first=>
    have H:=R0.o;clear R0;by_cases u1:p1=true
    rotate_left
    ·replace u1:=Zr u1;subst u1;rw [Yb (show¬(false=true) by decide)] at H;have H':=Za H;clear H
     try go_wp2
     have n_:=Zb (Za (Kd.cBz c0.o)) (Zb (Za (Kd.cBz h0.o)) (Za (b1z HB.o)));clear c0 h0 HB;obtain ⟨c0,h0,HB⟩:=n_;refine ccz (n:=14) (S:=fun w'=>True) (ds:= []) (bA 14 0) kr_ rfl rfl trivial (fun hHeld=> ?_);refine c9z alz.tab8 alz.bits8 (fun d0 c1=> ?_);generalize Y1.drew=w18 at c0 h0 HB hHeld|-;refine pv_ 0 46 1 d0 ?_;refine pv_ 1 47 3 d0 ?_;refine pv_ 2 48 7 d0 ?_;refine pn_ 3 49 15 d0 ?_;refine pn_ 4 50 31 d0 ?_;refine pn_ 5 51 63 d0 ?_;refine pn_ 6 52 127 d0 ?_;refine pn_ 7 53 255 d0 ?_;refine pn_ 8 54 511 d0 ?_;refine pn_ 9 55 1023 d0 ?_;refine pn_ 10 56 2047 d0 ?_;refine pn_ 11 57 4095 d0 ?_;refine pn_ 12 58 8191 d0 ?_;refine pv_ 13 59 16383 d0 ?_;refine done_ (dWz d0.o kr_) ?_
     try go_wp2
     go_meet
     case rel=>exact ⟨_,(true),sd_,H',⟨by have:=d1.o;have:=e1.o;first|omega|exact Zv _⟩,⟨rm_ c0⟩,⟨rm_ h0⟩,⟨bl_⟩⟩
    subst u1;rw [Ya rfl] at H;obtain ⟨T1,H⟩:=ig_ H;have Z1:=Zd T1;have V1:decide (0<l3.length)=true:=Zd (by omega);clear T1;have H':=Za H;clear H
    try go_wp2
    have n_:=Zb (Za (Kd.cBz c0.o)) (Zb (Za (Kd.cBz h0.o)) (Za (b1z HB.o)));clear c0 h0 HB;obtain ⟨c0,h0,HB⟩:=n_;have b1:0<=(b0:Int):=Zc as_;have X0:b0<(l3.length:Int):=Zc as_;obtain ⟨n1,Y0,Q0,F1,i0,u0,B0⟩:=at_L1 L1.o b0 b1 X0;have y0:=i0;obtain rfl:t0=n1:=(by injection F1);replace i0:=(HB.o.cell (Zj w _ i0)).trans i0;have I0:=Za B0;have s1:=Za u0;clear B0 u0;replace b1:=Zz b1;replace X0:=Zz X0;have Z0:0<=(0:Int):=(by omega);have S0:0<(l3.length:Int):=Zc as_;obtain ⟨f1,V0,U0,y1,e0,C0,z0⟩:=at_L1 L1.o 0 Z0 S0;have k0:=e0
    (try rw [show ((0:Int)).toNat=0 from rfl] at k0)
    (try rw [show 0*1=0 from rfl] at k0)
    (try rw [Addr.add_zero'] at k0)
    obtain rfl:t0=f1:=(by injection y1);have X1:(0<l3.length)=True:=Zz (by omega)
    (try rw [show ((0:Int)).toNat=0 from rfl] at e0)
    (try rw [Addr.add_zero'] at e0)
    replace e0:=(HB.o.cell (Zj w _ e0)).trans e0;have N0:=Za z0;have t1:=Za C0;clear z0 C0;replace Z0:=Zz Z0;replace S0:=Zz S0;refine ccz (n:=14) (S:=fun w'=>w'.cell? (t0.add (b0).toNat)=some (.slice Y0 (rd_L1 l3 b0).length Q0)/\w'.cell? t0=some (.slice V0 (rd_L1 l3 0).length U0)) (ds:= []) (bA 14 0) kr_ rfl rfl ⟨((HB.o.cell (Zj w _ y0)).trans y0),((HB.o.cell (Zj w _ k0)).trans k0)⟩ (fun hHeld=> ?_);refine c9z alz.tab8 alz.bits8 (fun d0 c1=> ?_);generalize Y1.drew=w17 at c0 h0 HB I0 N0 i0 e0 hHeld|-;refine pv_ 0 46 1 d0 ?_;refine pv_ 1 47 3 d0 ?_;refine pv_ 2 48 7 d0 ?_;refine pv_ 3 49 15 d0 ?_;refine pv_ 4 50 31 d0 ?_;refine pv_ 5 51 63 d0 ?_;refine pv_ 8 54 319 d0 ?_;refine pv_ 9 55 831 d0 ?_;refine tw_ 6 52 895 d0 c1 hHeld ?_;refine pv_ 7 53 1023 d0 ?_
    refine tw_ 10 56 2047 d0 c1 hHeld ?_;refine pv_ 11 57 4095 d0 ?_;refine pv_ 12 58 8191 d0 ?_;refine pv_ 13 59 16383 d0 ?_;refine done_ (dWz d0.o kr_) ?_
    try go_wp2
    go_meet
    case rel=>exact ⟨_,((((rd_L1 l3 b0).length:Int) !=((rd_L1 l3 0).length:Int))),sd_,H',⟨by have:=d1.o;have:=e1.o;first|omega|exact Zv _⟩,⟨rm_ c0⟩,⟨rm_ h0⟩,⟨bl_⟩⟩
   case rest=>
    clear R0;clear k1 I1 q1 f0 g0 M0 K0 H0 J0;obtain ⟨kq,r0,rfl,HA,O0,c0,n0,HB⟩:=hcut;rcases kq with _|T0
    ·exact Yf HA.o (by simp [alz.j2])
    have H:=HA.o;clear HA;simp only [alz.j2] at H;by_cases v1:r0=true
    ·subst v1;rw [Ya rfl] at H;simp only [Zx,Zy] at H;obtain ⟨rfl,rfl⟩:=H;go_wp2;go_ret2;exact ⟨_,er_,nl_,bl_⟩
    ·replace v1:=Zr v1;subst v1;rw [Yb (show¬(false=true) by decide)] at H;by_cases W0:b0=0
     ·rw [Ya W0] at H;have m1:(b0==0)=true:=Ye W0;have i1:(b0 !=0)=false:=Yc W0;clear W0;have H':=Za H;clear H;go_wp2
      go_roundg T0
      case measure=>have:=d1.o;have:=e1.o;have:=O0.o;omega
      case rel=>exact ⟨(E0),(wrap64 (b0+1)),sd_,H',⟨by have:=d1.o;have:=e1.o;have:=O0.o;omega⟩,⟨rm_ n0⟩,⟨bl_⟩⟩
     ·rw [Yb W0] at H;have m1:(b0==0)=false:=Zq W0;have i1:(b0 !=0)=true:=Yd W0;obtain ⟨⟨g1,H1⟩,b2,H⟩:=ob_ H
      (try dsimp only at H)
      have H':=Za H;clear H;obtain ⟨E1,z1,K1⟩:=Kd.aQz c0.o;subst K1;obtain ⟨G1,B1,M1⟩:=Kd.aQz n0.o;subst M1
      go_wp2_with (first|((with_reducible refine aaz (f:=70) rfl ?_);refine gl_ (some 66) func70 #[.slice E1 q0.length z1, .slice G1 E0.length B1] ?_;(with_reducible refine (aZz.calls T0 _ _ q0 _ _ E0 g1 H1 _ (xd_ (Kd.aHz c0.o).2.2) ((Kd.aHz c0.o).2.1) (xd_ (Kd.aHz n0.o).2.2) ((Kd.aHz n0.o).2.1) b2.o).mono ?_);rintro e p2 ⟨f2,rfl,P0,hb⟩;refine ⟨_,rfl,?_⟩;have n_:=Zb (Za (Kd.dNz (xd_ c0.o) (Kd.cbz P0) hb)) (Zb (Za (Kd.dNz (xd_ n0.o) (Kd.cbz P0) hb)) (Zb (Za (Kd.bCz (Kd.R_new' (Kd.R_new' P0 (Kd.R_lt (xd_ c0.o))) (Kd.R_lt (xd_ n0.o))) (adz bl_))) (hs_ HB hb)));clear c0 n0 HB;obtain ⟨c0,n0,j1,HB⟩:=n_;clear hb P0))
      go_roundg T0
      case measure=>have:=d1.o;have:=e1.o;have:=O0.o;omega
      case rel=>exact ⟨(g1),(wrap64 (b0+1)),sd_,H',⟨by have:=d1.o;have:=e1.o;have:=O0.o;omega⟩,⟨rm_ j1⟩,⟨bl_⟩⟩
mutual
def aqz.j0:Nat->List (List Int)->Bool->Int->Int->Int->Option ((List (List Int))×Int)
 |0,_,_,_,_,_=>none
 |k+1,x1,x29,x456000,x456001,x456002=>if x29=true then (some (([] :List (List Int)),1)) else ((aSz.f x456000).bind fun bt458=>((bsz.f k x456000 x456001 x456002).bind fun bt465=>(aqz.l0 k x1 bt465.1 ([] :List (List Int)) 0 bt458.1 bt458.2.1 bt458.2.2.1 bt458.2.2.2.1 bt458.2.2.2.2.1)))
def aqz.l0:Nat->List (List Int)->List (List Int)->List (List Int)->Int->ByteArray->Int->Int->Int->Int->Option ((List (List Int))×Int)
 |0,_,_,_,_,_,_,_,_,_=>none
 |k+1,x1,x8,x10,x11,x465000,x465001,x465002,x465003,x465004=>if x11<(x8.length:Int) then (if 0<=x11 then ((alz.f k x465001 x465002 (rd_L4 x8 x11) x1).bind fun bt470=>(if x10.length<5864062014805 then (aqz.l0 k x1 x8 (x10++ [bt470.1]) (wrap64 (x11+1)) x465000 x465001 x465002 x465003 x465004) else (none))) else (none)) else (some (x10,0))
end
def aqz.f (k:Nat) (a0_0 a0_1 a0_2:Int) (l1:List (List Int)):Option ((List (List Int))×Int):=(bmz.f a0_0 a0_1 a0_2).bind fun t456=>(if t456=true then (if (l1.length:Int)=a0_1 then ((bjz.f k a0_0 a0_1 a0_2 l1).bind fun t457=>(aqz.j0 k l1 (!t457) a0_0 a0_1 a0_2)) else (aqz.j0 k l1 true a0_0 a0_1 a0_2)) else (aqz.j0 k l1 true a0_0 a0_1 a0_2))
def aqz.T9:Bool×List (List Nat×List Nat):=(true, [([], []),([0], [0]),([], []),([2], [2]),([], []),([], []),([4,5], [4,5]),([6], [6]),([], []),([1,3,7,8], [1,3,7,8]),([9], [9]),([10], [10]),([10], [10]),([11,9,0,1,2,3,4,5,6,7,8,9,10,11], [11]),([12,13,0,1,2,3,4,5,6,7,8,9,10,11,12,13], [12])])
def aqz.B9:List Nat:= [0,1,0,4,0,0,48,112,0,511,1023,2047,2047,4095,16383]
theorem aqz.tab9:rtab .any (opsOf Tryz.f20 9)=aqz.T9:=by kernel_rfl
theorem aqz.bits9:waitsOk aqz.T9.2 aqz.B9=true:=by kernel_rfl
theorem aqz.calls (k:Nat) (g0 d0 k0:Int) (A1:Option Addr) (c1:Nat) (l1 r1:List (List Int)) (r2:Int) (w:World) (l2:Kd.C (Kd.slice 5 (Kd.int .u8)) w A1 l1.length l1) (v2:l1.length<=c1) (h:aqz.f k g0 d0 k0 l1=some (r1,r2)):
  Calls prog 20 #[.agg #[.int .i64 g0, .int .i64 d0, .int .i64 k0], .slice A1 l1.length c1] w fun e w'=> ∃m2:Value,e= .returned (.tuple #[m2, .int .i64 r2])/\Kd.S (Kd.slice 5 (Kd.int .u8)) 34 w' w.heap.size (fun _=>True) m2 r1/\Below w.heap.size w w':=by
 have K2:=underlying23;have M2:=underlying79;have i2:=Za l2;have z2:=Za v2;clear l2 v2;have HB:=Za (Zw w.heap.size w);have H:=h;clear h;unfold aqz.f at H;have Y1:=Za H;clear H;go_enter func20,ntmps20
 go_upto_region 1 with (first|((with_reducible refine aTz (N:=2) rfl ?_);(try (refine aYz (by rfl) ?_;dsimp only));refine bx_ 2 #[.int .i64 g0, .int .i64 d0, .int .i64 k0] 23 ?_;intro n0 hg w4 P0 hb;have n_:=Zb (hs_ HB hb) (Zb (Za (P0)) (Zb (ag_ HB n0) (ag_ HB n0)));clear HB;obtain ⟨HB,a0,g2,y2⟩:=n_;clear hb P0 hg))
 (try simp only [Act.put,Zg,Zh,Zi])
 go_cut [29] (fun I2 wc=> ∃(kq:Nat) (H0:Bool),I2= .bool H0/\Aside0 (aqz.j0 kq l1 H0 g0 d0 k0=some (r1,r2))/\Aside0 (kq<=k)/\Aside0 (wc.heap[n0]?=some (.cells #[.int .i64 g0, .int .i64 d0, .int .i64 k0] 23 (0,0)))/\Aside0 (Below w.heap.size w wc))
 case first=>
  have H:=Y1.o;clear Y1;obtain ⟨Q1,A5,H⟩:=ob_ H
  (try dsimp only at H)
  by_cases c6:Q1=true
  rotate_left
  ·replace c6:=Zr c6;subst c6;rw [Yb (show¬(false=true) by decide)] at H;have H':=Za H;clear H;obtain ⟨_,_,_,_,_,_⟩:=bc3_ a0.o
   go_wp2_with (first|((with_reducible refine aaz (f:=48) rfl ?_);refine gl_ (some 15) func48 #[.agg #[.int .i64 g0, .int .i64 d0, .int .i64 k0]] ?_;(with_reducible refine (bmz.calls g0 d0 k0 false _ A5.o).mono ?_);rintro e Q2 ⟨rfl,hb⟩;refine ⟨_,rfl,?_⟩;have n_:=Zb (bb_ a0 hb) (hs_ HB hb);clear a0 HB;obtain ⟨a0,HB⟩:=n_;(try clear hb)))
   go_meet
   case rel=>exact ⟨_,(true),sd_,H',⟨by first|omega|exact Zv _⟩,⟨bk_⟩,⟨bl_⟩⟩
  subst c6;rw [Ya rfl] at H;by_cases c7:(l1.length:Int)=d0
  rotate_left
  ·rw [Yb c7] at H;have W1:((l1.length:Int)==d0)=false:=Zq c7;have Z1:((l1.length:Int) !=d0)=true:=Yd c7;have H':=Za H;clear H;obtain ⟨_,_,_,_,_,_⟩:=bc3_ a0.o
   go_wp2_with (first|((with_reducible refine aaz (f:=48) rfl ?_);refine gl_ (some 15) func48 #[.agg #[.int .i64 g0, .int .i64 d0, .int .i64 k0]] ?_;(with_reducible refine (bmz.calls g0 d0 k0 true _ A5.o).mono ?_);rintro e V2 ⟨rfl,hb⟩;refine ⟨_,rfl,?_⟩;have n_:=Zb (bb_ a0 hb) (hs_ HB hb);clear a0 HB;obtain ⟨a0,HB⟩:=n_;(try clear hb);obtain ⟨_,_,_,_,_,_⟩:=bc3_ a0.o))
   go_meet
   case rel=>exact ⟨_,(true),sd_,H',⟨by first|omega|exact Zv _⟩,⟨bk_⟩,⟨bl_⟩⟩
  rw [Ya c7] at H;have W1:((l1.length:Int)==d0)=true:=Ye c7;have Z1:((l1.length:Int) !=d0)=false:=Yc c7;clear c7;obtain ⟨C1,A8,H⟩:=ob_ H
  (try dsimp only at H)
  have H':=Za H;clear H;obtain ⟨_,_,_,_,_,_⟩:=bc3_ a0.o
  go_wp2_with (first|((with_reducible refine aaz (f:=48) rfl ?_);refine gl_ (some 15) func48 #[.agg #[.int .i64 g0, .int .i64 d0, .int .i64 k0]] ?_;(with_reducible refine (bmz.calls g0 d0 k0 true _ A5.o).mono ?_);rintro e O2 ⟨rfl,hb⟩;refine ⟨_,rfl,?_⟩;have n_:=Zb (bb_ a0 hb) (hs_ HB hb);clear a0 HB;obtain ⟨a0,HB⟩:=n_;(try clear hb);obtain ⟨_,_,_,_,_,_⟩:=bc3_ a0.o)|(go_at_call 49;(with_reducible refine (bjz.calls k g0 d0 k0 _ _ l1 C1 _ (xd_ (Kd.aMz i2.o HB.o)) (z2.o) A8.o).mono ?_);rintro e S2 ⟨rfl,hb⟩;have n_:=Zb (bb_ a0 hb) (hs_ HB hb);clear a0 HB;obtain ⟨a0,HB⟩:=n_;(try clear hb)))
  go_meet
  case rel=>exact ⟨_,(!C1),sd_,H',⟨by first|omega|exact Zv _⟩,⟨bk_⟩,⟨bl_⟩⟩
 case rest=>
  clear Y1;obtain ⟨kq,H0,rfl,HA,n2,a0,HB⟩:=hcut;rcases kq with _|f2
  ·exact Yf HA.o (by simp [aqz.j0])
  have H:=HA.o;clear HA;simp only [aqz.j0] at H;by_cases O1:H0=true
  ·subst O1;rw [Ya rfl] at H;simp only [Zx,Zy] at H;obtain ⟨rfl,rfl⟩:=H;go_wp2;go_ret2;exact ⟨_,er_,nl_,bl_⟩
  ·replace O1:=Zr O1;subst O1;rw [Yb (show¬(false=true) by decide)] at H;obtain ⟨⟨B0,t0,r0,C0,E0,a2⟩,G2,H⟩:=ob_ H
   (try dsimp only at H)
   obtain ⟨⟨u0,T1⟩,H2,H⟩:=ob_ H
   (try dsimp only at H)
   have H':=Za H;clear H;obtain ⟨k1,g1,j1,o1,m1,e1⟩:=bc3_ a0.o
   go_wp2_with (first|((with_reducible refine aaz (f:=50) rfl ?_);refine gl_ (some 33) func50 #[.int .i64 g0] ?_;(with_reducible refine (aSz.calls g0 B0 t0 r0 C0 E0 a2 _ G2.o).mono ?_);rintro e P2 ⟨rfl,hb⟩;refine ⟨_,rfl,?_⟩;have n_:=Zb (bb_ a0 hb) (hs_ HB hb);clear a0 HB;obtain ⟨a0,HB⟩:=n_;(try clear hb))|((with_reducible refine aTz (N:=6) rfl ?_);(try (refine aYz (by rfl) ?_;dsimp only));refine cgz ?hg (N:=6) ?hd (cs:= #[.string (⟨#[]⟩:ByteArray), .int .i64 0, .int .u32 0, .int .u8 0, .int .i64 0]) (t:=79) ?hr ?_;(case hd=>rfl);(case hg=>rfl);(case hr=>first|(go_simp;done)|(go_simp;rfl));intro c0 hg N2 P0 hb;have n_:=Zb (bb_ a0 hb) (Zb (hs_ HB hb) (Zb (Za (P0)) (Zb (ag_ HB c0) (Zb (ag_ HB c0) (Zb (n1_ a0 c0) (n2_ a0 c0))))));clear a0 HB;obtain ⟨a0,HB,b0,t2,j2,K0,L0⟩:=n_;clear hb P0 hg;have q2:=L0.o;have o2:=K0.o;obtain ⟨S0,q1,b1,X0,W0,t1,f1,i1,V0,p1⟩:=bc5_ b0.o;obtain ⟨s1,Z0,R0,n1,T0,U0⟩:=bc3_ a0.o)|((with_reducible refine aaz (f:=51) rfl ?_);refine gl_ (some 38) func51 #[.agg #[.int .i64 g0, .int .i64 d0, .int .i64 k0]] ?_;(with_reducible refine (bsz.calls f2 g0 d0 k0 u0 T1 _ H2.o).mono ?_);rintro e R2 ⟨U1,rfl,v1,hb⟩;refine ⟨_,rfl,?_⟩;have n_:=Zb (Za (Kd.V_lower (Kd.dFz (ok':=fun k_=>k_≠n0/\k_≠c0) v1 (fun k_ N1=>⟨(Kd.freshB (g:=n0) (o:= .cells #[.int .i64 g0, .int .i64 d0, .int .i64 k0] 23 (0,0)) kb_ k_ N1),(Kd.freshB (g:=c0) (o:= .cells #[.string B0, .int .i64 t0, .int .u32 r0, .int .u8 C0, .int .i64 E0] 79 (0,0)) kb_ k_ N1)⟩)) (adz bl_))) (Zb (Za (aNz (g:=n0) (o:= .cells #[.int .i64 g0, .int .i64 d0, .int .i64 k0] 23 (0,0)) kb_ hb)) (Zb (Za (aNz (g:=c0) (o:= .cells #[.string B0, .int .i64 t0, .int .u32 r0, .int .u8 C0, .int .i64 E0] 79 (0,0)) kb_ hb)) (hs_ HB hb)));clear a0 b0 HB;obtain ⟨I1,a0,b0,HB⟩:=n_;clear hb v1))
   go_loopg [10,11] f2 (fun kq p2 D2 w'=> ∃(z0:List (List Int)) (f0:Int),D2= .int .i64 f0/\Aside0 (aqz.l0 kq l1 u0 z0 f0 B0 t0 r0 C0 E0=some (r1,r2))/\Aside0 (kq<=f2)/\Aside0 (Kd.V (Kd.slice 3 (Kd.int .i64)) 57 w' w.heap.size (fun k_=>some k_≠(p2:Value).ownBlock/\k_≠n0/\k_≠c0) U1 u0)/\Aside0 (Kd.S (Kd.slice 5 (Kd.int .u8)) 34 w' w.heap.size (fun _=>True) p2 z0)/\Aside0 (w'.heap[n0]?=some (.cells #[.int .i64 g0, .int .i64 d0, .int .i64 k0] 23 (0,0)))/\Aside0 (w'.heap[c0]?=some (.cells #[.string B0, .int .i64 t0, .int .u32 r0, .int .u8 C0, .int .i64 E0] 79 (0,0)))/\Aside0 (Below w.heap.size w w'))
   case atStart=>exact ⟨(([] :List (List Int))),(0),sd_,H',⟨Zv _⟩,⟨vm_ I1⟩,⟨nl_⟩,⟨bk_⟩,⟨bk_⟩,⟨bl_⟩⟩
   clear H';clear k1 j1 m1 S0 b1 W0 f1 V0 s1 R0 T0 g1 o1 e1 q1 X0 t1 i1 p1 Z0 n1 U0;obtain ⟨z0,f0,rfl,HA,u2,o0,e0,a0,b0,HB⟩:=hrel;rcases gk with _|k2
   ·exact Yf HA.o (by simp [aqz.l0])
   have H:=HA.o;clear HA;simp only [aqz.l0] at H;by_cases B1:f0<(u0.length:Int)
   rotate_left
   ·rw [Yb B1] at H;have J1:=Ze B1;clear B1;simp only [Zx,Zy] at H;obtain ⟨rfl,rfl⟩:=H;obtain ⟨C2,E2,d2⟩:=Kd.V_slice o0.o;subst d2;go_wp2;go_ret2;exact ⟨_,er_,xd_ e0.o,bl_⟩
   rw [Ya B1] at H;have J1:=Zd B1;clear B1;obtain ⟨s2,H⟩:=ih_ H;obtain ⟨⟨D0,V1⟩,B2,H⟩:=ob_ H
   (try dsimp only at H)
   obtain ⟨G1,H⟩:=ij_ H;obtain ⟨c2,G0⟩: ∃y_:List (List Int),y_=(z0++ [D0]):=⟨_,rfl⟩
   first|rw [Zl, <-G0] at H|rw [<-G0] at H
   (try dsimp only at H)
   have H1:=Za G0;clear G0;have H':=Za H;clear H;obtain ⟨A2,J2,e2⟩:=Kd.V_slice o0.o;subst e2
   try go_wp2
   have n_:=Zb (Za (Kd.dGz o0.o)) (Zb (Za (Kd.S_drew e0.o)) (Zb (Za (c3z a0.o)) (Zb (Za (c3z b0.o)) (Za (b1z HB.o)))));clear o0 e0 a0 b0 HB;obtain ⟨o0,e0,a0,b0,HB⟩:=n_;have a1:0<=(f0:Int):=Zc as_;have u1:f0<(u0.length:Int):=Zc as_;obtain ⟨K1,M0,N0,b2,q0,I0,J0⟩:=at_L4 (Kd.dcz o0.o).2.2 f0 a1 u1;cases b2
   obtain ⟨w2,z1,y1,O0⟩:=Kd.V_get o0.o [] f0 a1 (by first|exact u1|exact Zc as_|(have e_:=(Kd.dcz o0.o).1;omega));obtain ⟨L1,M1,rfl,v0,y0⟩:=Kd.cNz y1;have p0:=O0 0 _ rfl;rw [Nat.add_zero,show ((Kd.slice 3 (Kd.int .i64))).sz=1 from rfl,Nat.mul_one] at p0;replace p0:=Zn (p0.symm.trans q0);injection p0 with F1 X1 D1
   rw [F1] at y0;rw [D1] at v0;have h0:=Za (show Kd.V (Kd.int .i64) 3 _ w.heap.size _ _ (rd_L4 u0 f0) from Kd.V_mk v0 y0);clear F1 X1 D1 y0 v0;clear O0 z1;have i0:=Za J0;have Y0:=Za I0;clear J0 I0;replace a1:=Zz a1;replace u1:=Zz u1;refine ccz (n:=15) (S:=fun w'=>w'.cell? ⟨c0,0,none⟩=some (.string B0)/\w'.cell? ⟨c0,1,none⟩=some (.int .i64 t0)/\w'.cell? ⟨c0,2,none⟩=some (.int .u32 r0)/\w'.cell? ⟨c0,3,none⟩=some (.int .u8 C0)/\w'.cell? ⟨c0,4,none⟩=some (.int .i64 E0)/\w'.cell? (K1.add (f0).toNat)=some (.slice M0 (rd_L4 u0 f0).length N0)) (ds:= []) (bA 15 0) kr_ rfl rfl ⟨(abz b0.o 0).trans rfl,(abz b0.o 1).trans rfl,(abz b0.o 2).trans rfl,(abz b0.o 3).trans rfl,(abz b0.o 4).trans rfl,q0⟩ (fun hHeld=> ?_);refine c9z aqz.tab9 aqz.bits9 (fun A0 P1=> ?_)
   generalize wr.drew=w33 at o0 e0 a0 b0 HB h0 i0 q0 hHeld|-;refine pv_ 0 48 1 A0 ?_;refine pv_ 2 50 5 A0 ?_;refine pv_ 4 52 21 A0 ?_;refine pv_ 5 53 53 A0 ?_;refine pv_ 6 54 117 A0 ?_;refine pv_ 8 56 373 A0 ?_;refine tw_ 1 49 375 A0 P1 hHeld ?_;refine tw_ 3 51 383 A0 P1 hHeld ?_;refine tw_ 7 55 511 A0 P1 hHeld ?_;refine one_ (i:=9) (N:=some 57) (bA 15 1023) rfl rfl (dgz A0.o kr_) (by decide) (fun K hK=> ?_);refine goes_ func52 kr_ rfl #[.int .i64 t0, .int .u32 r0, .slice M0 (rd_L4 u0 f0).length N0, .slice A1 l1.length c1] (by rfl) rfl rfl ar_ ?_
   with_reducible refine (alz.calls k2 t0 r0 _ _ (rd_L4 u0 f0) _ _ l1 D0 V1 _ ?side1 ?side2 ?side3 ?side4 B2.o).mono ?_
   (case side1=>repeat (first|exact (by repeat (first|(with_reducible exact i0.o)|(with_reducible refine Kd.cez ?_ _)|(with_reducible refine Kd.bEz ?_ _)|(with_reducible refine Kd.cpz ?_)|exact i0.o))|(with_reducible refine Kd.cez ?_ _)|(with_reducible refine Kd.bEz ?_ _)|(with_reducible refine Kd.cpz ?_)))
   (case side2=>exact Y0.o)
   (case side3=>repeat (first|exact (Kd.aMz i2.o HB.o)|(with_reducible refine Kd.cez ?_ _)|(with_reducible refine Kd.bEz ?_ _)|(with_reducible refine Kd.cpz ?_)))
   (case side4=>exact z2.o)
   rintro e U2 ⟨L2,rfl,v1,hb⟩;have R1:=(hb.cell (Zj _ _ (hHeld.2.2.2.2.2))).trans (hHeld.2.2.2.2.2);refine ⟨_,rfl,?_⟩;have n_:=Zb (Za (Kd.dOz (xd_ o0.o) (Kd.cbz v1) hb)) (Zb (Za (Kd.S_elder' (xd_ e0.o) (Kd.cbz v1) hb)) (Zb (Za (Kd.dOz (by (with_reducible repeat (first|apply Kd.dzz|apply Kd.dAz|apply Kd.dGz));exact h0.o) (Kd.cbz v1) hb)) (Zb (Za (Kd.bCz v1 (adz bl_))) (Zb (bb_ a0 hb) (Zb (bb_ b0 hb) (Zb (Za (Kd.aMz (by repeat (first|(with_reducible exact i0.o)|(with_reducible refine Kd.cez ?_ _)|(with_reducible refine Kd.bEz ?_ _)|(with_reducible refine Kd.cpz ?_)|exact i0.o)) hb)) (hs_ HB hb)))))));clear o0 e0 h0 a0 b0 i0 HB;obtain ⟨o0,e0,h0,F0,a0,b0,i0,HB⟩:=n_
   (try clear hb)
   (try clear hb2)
   (try clear hk)
   (try clear hi)
   (try clear v1)
   refine hK.out _ _ ⟨(abz b0.o 0).trans rfl,(abz b0.o 1).trans rfl,(abz b0.o 2).trans rfl,(abz b0.o 3).trans rfl,(abz b0.o 4).trans rfl,R1⟩ (fun hHeld=> ?_);clear hK K;refine norm_ (a':= ?_) ?_ ?_;rotate_left
   ·show Act.put _ (some 57) _=_;simp only [Act.put,Zg,Zh,Zi,i64_w,i32_w];rfl
   refine pv_ 10 47 2047 A0 ?_;refine pv_ 11 58 4095 A0 ?_;refine pv_ 12 59 8191 A0 ?_;refine pv_ 13 12 16383 A0 ?_;refine pv_ 14 13 32767 A0 ?_;refine done_ (dWz A0.o kr_) ?_;obtain ⟨Q0,d1,S1⟩:=Kd.aQz F0.o;subst S1
   try go_wp2_with (first|((with_reducible refine amz (b:= .append) (xs:= #[.tmp 60, .tmp 62]) rfl ?_);(try (refine aYz (by rfl) ?_;dsimp only));at_builtin;refine Kd.bLz (Kd.slice 5 (Kd.int .u8)) (w0:=w) w.heap.size rfl (.tmp 60) (.tmp 62) 24 34 (.slice none 0 0) 24 rfl underlying24 info34 rfl (by decide) (by omega) u10 z0 D0 [.slice Q0 D0.length d1] (fun _=>True) (fun k_=>some k_=(.slice Q0 D0.length d1:Value).ownBlock) rfl rfl (Kd.M_row (Kd.aKz (Kd.b5z rfl (Kd.aKz (ok':=fun k_=>((fun _=>True)) k_/\some k_≠(u10:Value).ownBlock) (Kd.bqz (F0.o) (Kd.bFz e0.o) (by decide)) (fun k_ hk=>⟨trivial,hk.2⟩))) (fun _ h_=>h_))) (fun k_ N1=>((Kd.aKz (ok':=fun k_=>((fun _=>True)) k_/\some k_≠(u10:Value).ownBlock) (Kd.bqz (F0.o) (Kd.bFz e0.o) (by decide)) (fun k_ hk=>⟨trivial,hk.2⟩))).1 k_ N1.symm) (fun _ _=>trivial) (sm_ e0) bl_ (adz bl_) (by have:=G1.o;omega) ?_;intro F2 T2 ho hb hg hat;rw [<-H1.o] at ho;have n_:=Zb (Za (Kd.drz (ok:=(fun k_=>some k_≠(.slice Q0 D0.length d1:Value).ownBlock/\k_≠n0/\k_≠c0)) (vm_ o0) hg hat)) (Zb (Za (cQz (g:=n0) (o:= .cells #[.int .i64 g0, .int .i64 d0, .int .i64 k0] 23 (0,0)) bk_ hg (Kd.S_ne e0.o a0.o (by decide)))) (Zb (Za (cQz (g:=c0) (o:= .cells #[.string B0, .int .i64 t0, .int .u32 r0, .int .u8 C0, .int .i64 E0] 79 (0,0)) bk_ hg (Kd.S_ne e0.o b0.o (by decide)))) (Zb (Za (Kd.drz (ok:=(fun k_=>some k_≠(.slice Q0 D0.length d1:Value).ownBlock/\k_≠n0/\k_≠c0)) (by (with_reducible repeat (first|apply Kd.dzz|apply Kd.dAz|apply Kd.dGz));exact Kd.dFz h0.o (fun _ hk=>⟨⟨hk.2,⟨hk.1.2.1,hk.1.2.2⟩⟩,hk.1.1⟩)) hg hat)) (Zb (Za (hb)) (Za (ho))))));clear o0 a0 b0 h0 HB e0 F0;obtain ⟨o0,a0,b0,h0,HB,E1⟩:=n_;clear ho hb hg hat))
   go_roundg k2
   case measure=>have:=n2.o;have:=u2.o;omega
   case rel=>exact ⟨(c2),(wrap64 (f0+1)),sd_,H',⟨by have:=n2.o;have:=u2.o;omega⟩,⟨vm_ o0⟩,⟨xd_ E1.o⟩,⟨bk_⟩,⟨bk_⟩,⟨bl_⟩⟩
def btz.f (a0_0 a0_1:Int) (a0_2:Int):Option (Int):=(aSz.f a0_0).bind fun bt507=>(some bt507.2.2.2.1)
theorem btz.calls (f0 h0 i0 r:Int) (w:World) (h:btz.f f0 h0 i0=some r):
  Calls prog 136 #[.agg #[.int .i64 f0, .int .i64 h0, .int .i64 i0]] w fun e w'=>e= .returned (.int .u8 r)/\Below w.heap.size w w':=by
 have y0:=underlying23;have A0:=underlying79;have HB:=Za (Zw w.heap.size w);have H:=h;clear h;unfold btz.f at H;obtain ⟨⟨k0,l0,n0,p0,o0,q0⟩,A2,H⟩:=ob_ H
 (try dsimp only at H)
 obtain rfl:=Zn H;go_enter func136,ntmps136
 go_wp2_with (first|((with_reducible refine aTz (N:=1) rfl ?_);refine bx_ 1 #[.int .i64 f0, .int .i64 h0, .int .i64 i0] 23 ?_;intro g0 hg w3 e0 hb;have n_:=Zb (hs_ HB hb) (Zb (Za (e0)) (Zb (ag_ HB g0) (ag_ HB g0)));clear HB;obtain ⟨HB,a0,v0,u0⟩:=n_;clear hb e0 hg;obtain ⟨_,_,_,_,_,_⟩:=bc3_ a0.o)|((with_reducible refine aaz (f:=50) rfl ?_);refine gl_ (some 8) func50 #[.int .i64 f0] ?_;(with_reducible refine (aSz.calls f0 k0 l0 n0 p0 o0 q0 _ A2.o).mono ?_);rintro e w5 ⟨rfl,hb⟩;refine ⟨_,rfl,?_⟩;have n_:=Zb (bb_ a0 hb) (hs_ HB hb);clear a0 HB;obtain ⟨a0,HB⟩:=n_;(try clear hb))|((with_reducible refine aTz (N:=3) rfl ?_);refine cgz ?hg (N:=3) ?hd (cs:= #[.string (⟨#[]⟩:ByteArray), .int .i64 0, .int .u32 0, .int .u8 0, .int .i64 0]) (t:=79) ?hr ?_;(case hd=>rfl);(case hg=>rfl);(case hr=>first|(go_simp;done)|(go_simp;rfl));intro b0 hg w6 e0 hb;have n_:=Zb (bb_ a0 hb) (Zb (hs_ HB hb) (Zb (Za (e0)) (Zb (ag_ HB b0) (Zb (ag_ HB b0) (Zb (n1_ a0 b0) (n2_ a0 b0))))));clear a0 HB;obtain ⟨a0,HB,j0,r0,t0,d0,c0⟩:=n_;clear hb e0 hg;have w0:=c0.o;have z0:=d0.o;obtain ⟨_,_,_,_,_,_,_,_,_,_⟩:=bc5_ j0.o))
 go_ret;exact ⟨er_,bl_⟩
def b7z.f (a0:Int):Option (Int):=if a0=106 then (some 8) else (if a0=105 then (some 16) else (some 1))
theorem b7z.calls (a0 r:Int) (w:World) (h:b7z.f a0=some r):
  Calls prog 137 #[.int .u8 a0] w fun e w'=>e= .returned (.int .i64 r)/\Drawn0 w w':=by
 have H:=h;clear h;unfold b7z.f at H;by_cases c2:a0=106
 ·rw [Ya c2] at H;have b0:(a0==106)=true:=Ye c2;have d0:(a0 !=106)=false:=Yc c2;clear c2;obtain rfl:=Zn H;go_enter func137,ntmps137;go_wp2;go_ret;exact ⟨sd_,dn_⟩
 ·rw [Yb c2] at H;have b0:(a0==106)=false:=Zq c2;have d0:(a0 !=106)=true:=Yd c2;by_cases c3:a0=105
  ·rw [Ya c3] at H;have c0:(a0==105)=true:=Ye c3;have e0:(a0 !=105)=false:=Yc c3;clear c3;obtain rfl:=Zn H;go_enter func137,ntmps137;go_wp2;go_ret;exact ⟨sd_,dn_⟩
  ·rw [Yb c3] at H;have c0:(a0==105)=false:=Zq c3;have e0:(a0 !=105)=true:=Yd c3;obtain rfl:=Zn H;go_enter func137,ntmps137;go_wp2;go_ret;exact ⟨sd_,dn_⟩
mutual
def aDz.j0:Nat->Int->Bool->Int->Int->Int->Option (Int×Int)
 |0,_,_,_,_,_=>none
 |k+1,x1,x13,x515000,x515001,x515002=>if x13=true then (some (0,1)) else (if x1>4096 then (some (0,11)) else ((btz.f x515000 x515001 x515002).bind fun t516=>(if t516=98 then (aDz.j1 k (wrap64 (x1+4)) x515000 x515001 x515002) else (aDz.j1 k x1 x515000 x515001 x515002))))
def aDz.j1:Nat->Int->Int->Int->Int->Option (Int×Int)
 |0,_,_,_,_=>none
 |k+1,x1,x515000,x515001,x515002=>(btz.f x515000 x515001 x515002).bind fun t517=>((b7z.f t517).bind fun t518=>(aDz.l0 k x1 t518 x515000 x515001 x515002))
def aDz.l0:Nat->Int->Int->Int->Int->Int->Option (Int×Int)
 |0,_,_,_,_,_=>none
 |k+1,x1,x6,x515000,x515001,x515002=>if (wrap64 (x6*x515001))<x1 then ((btz.f x515000 x515001 x515002).bind fun t519=>((b7z.f t519).bind fun t520=>(aDz.l0 k x1 (wrap64 (x6+t520)) x515000 x515001 x515002))) else (some (x6,0))
end
def aDz.f (k:Nat) (a0_0 a0_1 a0_2:Int) (a1:Int):Option (Int×Int):=(bmz.f a0_0 a0_1 a0_2).bind fun t515=>(if t515=true then (aDz.j0 k a1 (decide (a1<0)) a0_0 a0_1 a0_2) else (aDz.j0 k a1 true a0_0 a0_1 a0_2))
theorem aDz.calls (k:Nat) (d0 b0 c0 a1 r1 r2:Int) (w:World) (h:aDz.f k d0 b0 c0 a1=some (r1,r2)):
  Calls prog 91 #[.agg #[.int .i64 d0, .int .i64 b0, .int .i64 c0], .int .i64 a1] w fun e w'=>e= .returned (.tuple #[.int .i64 r1, .int .i64 r2])/\Below w.heap.size w w':=by
 have X0:=underlying23;have HB:=Za (Zw w.heap.size w);have H:=h;clear h;unfold aDz.f at H;have R0:=Za H;clear H;go_enter func91,ntmps91
 go_upto_region 1 with (first|((with_reducible refine aTz (N:=2) rfl ?_);refine bx_ 2 #[.int .i64 d0, .int .i64 b0, .int .i64 c0] 23 ?_;intro g0 hg w4 I0 hb;have n_:=Zb (hs_ HB hb) (Zb (Za (I0)) (Zb (ag_ HB g0) (ag_ HB g0)));clear HB;obtain ⟨HB,a0,T0,V0⟩:=n_;clear hb I0 hg))
 (try simp only [Act.put,Zg,Zh,Zi])
 go_cut [13] (fun Z0 wc=> ∃(kq:Nat) (h0:Bool),Z0= .bool h0/\Aside0 (aDz.j0 kq a1 h0 d0 b0 c0=some (r1,r2))/\Aside0 (kq<=k)/\Aside0 (wc.heap[g0]?=some (.cells #[.int .i64 d0, .int .i64 b0, .int .i64 c0] 23 (0,0)))/\Aside0 (Below w.heap.size w wc))
 case first=>
  have H:=R0.o;clear R0;obtain ⟨S0,A5,H⟩:=ob_ H
  (try dsimp only at H)
  by_cases c6:S0=true
  ·subst c6;rw [Ya rfl] at H;have H':=Za H;clear H;obtain ⟨_,_,_,_,_,_⟩:=bc3_ a0.o
   go_wp2_with (first|((with_reducible refine aaz (f:=48) rfl ?_);refine gl_ (some 8) func48 #[.agg #[.int .i64 d0, .int .i64 b0, .int .i64 c0]] ?_;(with_reducible refine (bmz.calls d0 b0 c0 true _ A5.o).mono ?_);rintro e w8 ⟨rfl,hb⟩;refine ⟨_,rfl,?_⟩;have n_:=Zb (bb_ a0 hb) (hs_ HB hb);clear a0 HB;obtain ⟨a0,HB⟩:=n_;(try clear hb)))
   go_meet
   case rel=>exact ⟨_,(decide (a1<0)),sd_,H',⟨by first|omega|exact Zv _⟩,⟨bk_⟩,⟨bl_⟩⟩
  ·replace c6:=Zr c6;subst c6;rw [Yb (show¬(false=true) by decide)] at H;have H':=Za H;clear H;obtain ⟨_,_,_,_,_,_⟩:=bc3_ a0.o
   go_wp2_with (first|((with_reducible refine aaz (f:=48) rfl ?_);refine gl_ (some 8) func48 #[.agg #[.int .i64 d0, .int .i64 b0, .int .i64 c0]] ?_;(with_reducible refine (bmz.calls d0 b0 c0 false _ A5.o).mono ?_);rintro e k1 ⟨rfl,hb⟩;refine ⟨_,rfl,?_⟩;have n_:=Zb (bb_ a0 hb) (hs_ HB hb);clear a0 HB;obtain ⟨a0,HB⟩:=n_;(try clear hb)))
   go_meet
   case rel=>exact ⟨_,(true),sd_,H',⟨by first|omega|exact Zv _⟩,⟨bk_⟩,⟨bl_⟩⟩
 case rest=>
  clear R0;obtain ⟨kq,h0,rfl,HA,Q0,a0,HB⟩:=hcut;rcases kq with _|c1
  ·exact Yf HA.o (by simp [aDz.j0])
  have H:=HA.o;clear HA;simp only [aDz.j0] at H;by_cases P0:h0=true
  ·subst P0;rw [Ya rfl] at H;simp only [Zx,Zy] at H;obtain ⟨rfl,rfl⟩:=H;go_wp2;go_ret2;exact ⟨er_,bl_⟩
  ·replace P0:=Zr P0;subst P0;rw [Yb (show¬(false=true) by decide)] at H;by_cases G0:a1>4096
   ·rw [Ya G0] at H;have B0:decide (4096<a1)=true:=Zd G0;clear G0;simp only [Zx,Zy] at H;obtain ⟨rfl,rfl⟩:=H;go_wp2;go_ret2;exact ⟨er_,bl_⟩
   ·rw [Yb G0] at H;have B0:decide (4096<a1)=false:=Ze G0;clear G0;obtain ⟨i0,e1,H⟩:=ob_ H
    (try dsimp only at H)
    have D0:=Za H;clear H;obtain ⟨t0,w0,p0,r0,y0,q0⟩:=bc3_ a0.o
    go_upto_if 18 with (first|((with_reducible refine aaz (f:=136) rfl ?_);refine gl_ (some 17) func136 #[.agg #[.int .i64 d0, .int .i64 b0, .int .i64 c0]] ?_;(with_reducible refine (btz.calls d0 b0 c0 i0 _ e1.o).mono ?_);rintro e i1 ⟨rfl,hb⟩;refine ⟨_,rfl,?_⟩;have n_:=Zb (bb_ a0 hb) (hs_ HB hb);clear a0 HB;obtain ⟨a0,HB⟩:=n_;(try clear hb)))
    (try simp only [Act.put,Zg,Zh,Zi])
    go_cut [1] (fun v1 wc=> ∃(kq:Nat) (f0:Int),v1= .int .i64 f0/\Aside0 (aDz.j1 kq f0 d0 b0 c0=some (r1,r2))/\Aside0 (kq<=c1)/\Aside0 (wc.heap[g0]?=some (.cells #[.int .i64 d0, .int .i64 b0, .int .i64 c0] 23 (0,0)))/\Aside0 (Below w.heap.size w wc))
    case first=>
     have H:=D0.o;clear D0;by_cases C0:i0=98
     ·rw [Ya C0] at H;have e0:(i0==98)=true:=Ye C0;have L0:(i0 !=98)=false:=Yc C0;clear C0
      (first|rw [e0] |(simp only [i64_w,i32_w];rw [e0])|skip)
      have H':=Za H;clear H;go_wp2
      go_meet
      case rel=>exact ⟨_,(wrap64 (a1+4)),sd_,H',⟨by have:=Q0.o;first|omega|exact Zv _⟩,⟨bk_⟩,⟨bl_⟩⟩
     ·rw [Yb C0] at H;have e0:(i0==98)=false:=Zq C0;have L0:(i0 !=98)=true:=Yd C0
      (first|rw [e0] |(simp only [i64_w,i32_w];rw [e0])|skip)
      have H':=Za H;clear H;go_wp2
      go_meet
      case rel=>exact ⟨_,(a1),sd_,H',⟨by have:=Q0.o;first|omega|exact Zv _⟩,⟨bk_⟩,⟨bl_⟩⟩
    case rest=>
     clear D0;clear B0 t0 p0 y0 w0 r0 q0;obtain ⟨kq,f0,rfl,HA,O0,a0,HB⟩:=hcut;rcases kq with _|M0
     ·exact Yf HA.o (by simp [aDz.j1])
     have H:=HA.o;clear HA;simp only [aDz.j1] at H;obtain ⟨F0,W0,H⟩:=ob_ H
     (try dsimp only at H)
     obtain ⟨N0,d1,H⟩:=ob_ H
     (try dsimp only at H)
     have H':=Za H;clear H;obtain ⟨n0,z0,v0,u0,A0,o0⟩:=bc3_ a0.o
     go_wp2_with (first|((with_reducible refine aaz (f:=136) rfl ?_);refine gl_ (some 22) func136 #[.agg #[.int .i64 d0, .int .i64 b0, .int .i64 c0]] ?_;(with_reducible refine (btz.calls d0 b0 c0 F0 _ W0.o).mono ?_);rintro e f1 ⟨rfl,hb⟩;refine ⟨_,rfl,?_⟩;have n_:=Zb (bb_ a0 hb) (hs_ HB hb);clear a0 HB;obtain ⟨a0,HB⟩:=n_;(try clear hb))|((with_reducible refine aaz (f:=137) rfl ?_);refine gl_ (some 23) func137 #[.int .u8 F0] ?_;(with_reducible refine (b7z.calls F0 N0 _ d1.o).mono ?_);rintro e w' ⟨rfl,⟨nd,rfl⟩⟩;refine ⟨_,rfl,?_⟩))
     go_loopg [6] M0 (fun kq v6 w'=> ∃(k0:Int),v6= .int .i64 k0/\Aside0 (aDz.l0 kq f0 k0 d0 b0 c0=some (r1,r2))/\Aside0 (kq<=M0)/\Aside0 (w'.heap[g0]?=some (.cells #[.int .i64 d0, .int .i64 b0, .int .i64 c0] 23 (0,0)))/\Aside0 (Below w.heap.size w w'))
     case atStart=>exact ⟨(N0),sd_,H',⟨Zv _⟩,⟨bk_⟩,⟨bl_⟩⟩
     clear H';clear n0 v0 A0 z0 u0 o0;obtain ⟨k0,rfl,HA,U0,a0,HB⟩:=hrel;rcases gk with _|k3
     ·exact Yf HA.o (by simp [aDz.l0])
     have H:=HA.o;clear HA;simp only [aDz.l0] at H;by_cases H0:(wrap64 (k0*b0))<f0
     rotate_left
     ·rw [Yb H0] at H;have K0:=Ze H0;clear H0;simp only [Zx,Zy] at H;obtain ⟨rfl,rfl⟩:=H;obtain ⟨_,_,_,_,_,_⟩:=bc3_ a0.o;go_wp2;go_ret2;exact ⟨er_,bl_⟩
     rw [Ya H0] at H;have K0:=Zd H0;clear H0;obtain ⟨E0,b1,H⟩:=ob_ H
     (try dsimp only at H)
     obtain ⟨J0,Y0,H⟩:=ob_ H
     (try dsimp only at H)
     have H':=Za H;clear H;obtain ⟨_,_,_,_,_,_⟩:=bc3_ a0.o
     go_wp2_with (first|((with_reducible refine aaz (f:=136) rfl ?_);refine gl_ (some 32) func136 #[.agg #[.int .i64 d0, .int .i64 b0, .int .i64 c0]] ?_;(with_reducible refine (btz.calls d0 b0 c0 E0 _ b1.o).mono ?_);rintro e g1 ⟨rfl,hb⟩;refine ⟨_,rfl,?_⟩;have n_:=Zb (bb_ a0 hb) (hs_ HB hb);clear a0 HB;obtain ⟨a0,HB⟩:=n_;(try clear hb))|((with_reducible refine aaz (f:=137) rfl ?_);refine gl_ (some 33) func137 #[.int .u8 E0] ?_;(with_reducible refine (b7z.calls E0 J0 _ Y0.o).mono ?_);rintro e w' ⟨rfl,⟨nd,rfl⟩⟩;refine ⟨_,rfl,?_⟩))
     go_roundg k3
     case measure=>have:=Q0.o;have:=O0.o;have:=U0.o;omega
     case rel=>exact ⟨(wrap64 (k0+J0)),sd_,H',⟨by have:=Q0.o;have:=O0.o;have:=U0.o;omega⟩,⟨bk_⟩,⟨bl_⟩⟩
end Go.Proofs.Xc
end
