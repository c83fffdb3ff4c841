-- Joined texts of this work (wip/tools/bundle.py).
import Derived.Test.YtpdakdcmahlghaaGreatBReconWhich8
set_option maxHeartbeats 8000000
set_option maxRecDepth 100000
set_option linter.unusedVariables false
set_option linter.unusedSimpArgs false
section
namespace Go.Proofs.Xc
open Go.RowKit Go.Proofs.Pw Go.Proofs.Pl Go.Proofs.Pm Tryz
attribute [local go_sem] a7z a8z bgz bhz aVz aWz a9z baz
mutual
def akz.j0:Nat->Int->Int->List (List Int)->List (List Int)->Bool->Option ((List (List Int))×Bool)
 |0,_,_,_,_,_=>none
 |k+1,x0,x1,x2,x3,x34=>if x34=true then (some (([] :List (List Int)),false)) else (akz.l0 k x0 x1 x2 x3 ([] :List (List Int)) 0)
def akz.l0:Nat->Int->Int->List (List Int)->List (List Int)->List (List Int)->Int->Option ((List (List Int))×Bool)
 |0,_,_,_,_,_,_=>none
 |k+1,x0,x1,x2,x3,x10,x11=>if x11<(x2.length:Int) then (akz.l1 k x0 x1 x2 x3 x10 x11 ([] :List Int) 0) else (some (x10,true))
def akz.l1:Nat->Int->Int->List (List Int)->List (List Int)->List (List Int)->Int->List Int->Int->Option ((List (List Int))×Bool)
 |0,_,_,_,_,_,_,_,_=>none
 |k+1,x0,x1,x2,x3,x10,x11,x12,x13=>if 0<(x3.length:Int) then (if x13<((rd_L4 x3 0).length:Int) then (akz.l2 k x0 x1 x2 x3 x10 x11 x12 x13 0 0) else (if x10.length<5864062014805 then (akz.l0 k x0 x1 x2 x3 (x10++ [x12]) (wrap64 (x11+1))) else (none))) else (none)
def akz.l2:Nat->Int->Int->List (List Int)->List (List Int)->List (List Int)->Int->List Int->Int->Int->Int->Option ((List (List Int))×Bool)
 |0,_,_,_,_,_,_,_,_,_,_=>none
 |k+1,x0,x1,x2,x3,x10,x11,x12,x13,x14,x15=>if x15<(x3.length:Int) then (if 0<=x11 then (if x11<(x2.length:Int) then (if 0<=x15 then (if x15<((rd_L4 x2 x11).length:Int) then (if 0<=x13 then (if x13<((rd_L4 x3 x15).length:Int) then ((aBz.f k x0 x1 (rd (rd_L4 x2 x11) x15) (rd (rd_L4 x3 x15) x13)).bind fun t246=>(akz.l2 k x0 x1 x2 x3 x10 x11 x12 x13 (Go.bits .xor .i64 x14 t246) (wrap64 (x15+1)))) else (none)) else (none)) else (none)) else (none)) else (none)) else (none)) else (if x12.length<17592186044416 then (akz.l1 k x0 x1 x2 x3 x10 x11 (x12++ [x14]) (wrap64 (x13+1))) else (none))
end
def akz.f (k:Nat) (a0 a1:Int) (l2:List (List Int)) (l3:List (List Int)):Option ((List (List Int))×Bool):=(aez.f k a0 l2).bind fun t235=>(if t235=true then ((aez.f k a0 l3).bind fun t236=>(if t236=true then (if 0<(l2.length:Int) then (akz.j0 k a0 a1 l2 l3 (((rd_L4 l2 0).length:Int) !=(l3.length:Int))) else (none)) else (akz.j0 k a0 a1 l2 l3 true))) else (akz.j0 k a0 a1 l2 l3 true))
theorem akz.a6z: ∀k,(∀y0 y1 y2 y3 y4,LeO (akz.j0 k y0 y1 y2 y3 y4) (akz.j0 (k+1) y0 y1 y2 y3 y4))/\(∀y0 y1 y2 y3 y4 y5,LeO (akz.l0 k y0 y1 y2 y3 y4 y5) (akz.l0 (k+1) y0 y1 y2 y3 y4 y5))/\(∀y0 y1 y2 y3 y4 y5 y6 y7,LeO (akz.l1 k y0 y1 y2 y3 y4 y5 y6 y7) (akz.l1 (k+1) y0 y1 y2 y3 y4 y5 y6 y7))/\(∀y0 y1 y2 y3 y4 y5 y6 y7 y8 y9,LeO (akz.l2 k y0 y1 y2 y3 y4 y5 y6 y7 y8 y9) (akz.l2 (k+1) y0 y1 y2 y3 y4 y5 y6 y7 y8 y9))
 |0=>⟨fun _ _ _ _ _ r h=>by simp [akz.j0] at h,fun _ _ _ _ _ _ r h=>by simp [akz.l0] at h,fun _ _ _ _ _ _ _ _ r h=>by simp [akz.l1] at h,fun _ _ _ _ _ _ _ _ _ _ r h=>by simp [akz.l2] at h⟩
 |k+1=>by
  obtain ⟨a0,c0,b0,d0⟩:=akz.a6z k;refine ⟨?_,?_,?_,?_⟩
  ·intro y0 y1 y2 y3 y4;unfold akz.j0
   repeat' with_reducible first|apply a0|apply c0|apply b0|apply d0|apply aBz.mono|apply aez.mono|apply Yg|apply Yh|apply Yi|refine Yj ?_ fun _=>?_
  ·intro y0 y1 y2 y3 y4 y5;unfold akz.l0
   repeat' with_reducible first|apply a0|apply c0|apply b0|apply d0|apply aBz.mono|apply aez.mono|apply Yg|apply Yh|apply Yi|refine Yj ?_ fun _=>?_
  ·intro y0 y1 y2 y3 y4 y5 y6 y7;unfold akz.l1
   repeat' with_reducible first|apply a0|apply c0|apply b0|apply d0|apply aBz.mono|apply aez.mono|apply Yg|apply Yh|apply Yi|refine Yj ?_ fun _=>?_
  ·intro y0 y1 y2 y3 y4 y5 y6 y7 y8 y9;unfold akz.l2
   repeat' with_reducible first|apply a0|apply c0|apply b0|apply d0|apply aBz.mono|apply aez.mono|apply Yg|apply Yh|apply Yi|refine Yj ?_ fun _=>?_
theorem akz.mono: ∀a0 a1 a2 a3 k,LeO (akz.f k a0 a1 a2 a3) (akz.f (k+1) a0 a1 a2 a3):=by
 intro a0 a1 a2 a3 k;obtain ⟨b0,d0,c0,e0⟩:=akz.a6z k;unfold akz.f
 repeat' with_reducible first|apply b0|apply d0|apply c0|apply e0|apply aBz.mono|apply aez.mono|apply Yg|apply Yh|apply Yi|refine Yj ?_ fun _=>?_
theorem akz.calls (k:Nat) (a0 a1:Int) (A2:Option Addr) (c2:Nat) (l2:List (List Int)) (A3:Option Addr) (c3:Nat) (l3 r1:List (List Int)) (r2:Bool) (w:World) (p2:Kd.C (Kd.slice 3 (Kd.int .i64)) w A2 l2.length l2) (s2:l2.length<=c2) (i2:Kd.C (Kd.slice 3 (Kd.int .i64)) w A3 l3.length l3) (n2:l3.length<=c3) (h:akz.f k a0 a1 l2 l3=some (r1,r2)):
  Calls prog 127 #[.int .i64 a0, .int .u32 a1, .slice A2 l2.length c2, .slice A3 l3.length c3] w fun e w'=> ∃q2:Value,e= .returned (.tuple #[q2, .bool r2])/\Kd.S (Kd.slice 3 (Kd.int .i64)) 57 w' w.heap.size (fun _=>True) q2 r1/\Below w.heap.size w w':=by
 have K0:=Za p2;have W0:=Za s2;clear p2 s2;have b1:=Za i2;have s1:=Za n2;clear i2 n2;have HB:=Za (Zw w.heap.size w);have H:=h;clear h;unfold akz.f at H;have f2:=Za H;clear H;go_enter func127,ntmps127
 go_upto_region 1 with (fail)
 repeat (go_quiet (fail);go_upto_region 1 with (fail))
 go_cut [34] (fun N2 wc=> ∃(kq:Nat) (D0:Bool),N2= .bool D0/\Aside0 (akz.j0 kq a0 a1 l2 l3 D0=some (r1,r2))/\Aside0 (kq<=k)/\Aside0 (Below w.heap.size w wc))
 case first=>
  have H:=f2.o;clear f2;obtain ⟨d2,A6,H⟩:=ob_ H
  (try dsimp only at H)
  by_cases c7:d2=true
  rotate_left
  ·replace c7:=Zr c7;subst c7;rw [Yb (show¬(false=true) by decide)] at H;have H':=Za H;clear H
   go_wp2_with (first|(go_at_call 98;(with_reducible refine (aez.calls k a0 _ _ l2 false _ (xd_ (Kd.aMz K0.o HB.o)) (W0.o) A6.o).mono ?_);rintro e w' ⟨rfl,⟨nd,rfl⟩⟩;(try exact dd_)))
   repeat (go_quiet (first|(go_at_call 98;(with_reducible refine (aez.calls k a0 _ _ l2 false _ (xd_ (Kd.aMz K0.o HB.o)) (W0.o) A6.o).mono ?_);rintro e w' ⟨rfl,⟨nd,rfl⟩⟩;(try exact dd_)));try go_wp2_with (first|(go_at_call 98;(with_reducible refine (aez.calls k a0 _ _ l2 false _ (xd_ (Kd.aMz K0.o HB.o)) (W0.o) A6.o).mono ?_);rintro e w' ⟨rfl,⟨nd,rfl⟩⟩;(try exact dd_))))
   go_meet
   case rel=>exact ⟨_,(true),sd_,H',⟨by first|omega|exact Zv _⟩,⟨bl_⟩⟩
  subst c7;rw [Ya rfl] at H;obtain ⟨V1,A8,H⟩:=ob_ H
  (try dsimp only at H)
  by_cases c9:V1=true
  rotate_left
  ·replace c9:=Zr c9;subst c9;rw [Yb (show¬(false=true) by decide)] at H;have H':=Za H;clear H
   go_wp2_with (first|(go_at_call 98;(with_reducible refine (aez.calls k a0 _ _ l2 true _ (xd_ (Kd.aMz K0.o HB.o)) (W0.o) A6.o).mono ?_);rintro e w' ⟨rfl,⟨nd,rfl⟩⟩;(try exact dd_))|(go_at_call 98;(with_reducible refine (aez.calls k a0 _ _ l3 false _ (xd_ (Kd.aMz b1.o bl_)) (s1.o) A8.o).mono ?_);rintro e w' ⟨rfl,⟨nd,rfl⟩⟩;(try exact dd_)))
   repeat (go_quiet (first|(go_at_call 98;(with_reducible refine (aez.calls k a0 _ _ l2 true _ (xd_ (Kd.aMz K0.o HB.o)) (W0.o) A6.o).mono ?_);rintro e w' ⟨rfl,⟨nd,rfl⟩⟩;(try exact dd_))|(go_at_call 98;(with_reducible refine (aez.calls k a0 _ _ l3 false _ (xd_ (Kd.aMz b1.o bl_)) (s1.o) A8.o).mono ?_);rintro e w' ⟨rfl,⟨nd,rfl⟩⟩;(try exact dd_)));try go_wp2_with (first|(go_at_call 98;(with_reducible refine (aez.calls k a0 _ _ l2 true _ (xd_ (Kd.aMz K0.o HB.o)) (W0.o) A6.o).mono ?_);rintro e w' ⟨rfl,⟨nd,rfl⟩⟩;(try exact dd_))|(go_at_call 98;(with_reducible refine (aez.calls k a0 _ _ l3 false _ (xd_ (Kd.aMz b1.o bl_)) (s1.o) A8.o).mono ?_);rintro e w' ⟨rfl,⟨nd,rfl⟩⟩;(try exact dd_))))
   go_meet
   case rel=>exact ⟨_,(true),sd_,H',⟨by first|omega|exact Zv _⟩,⟨bl_⟩⟩
  subst c9;rw [Ya rfl] at H;by_cases N1:0<(l2.length:Int)
  ·rw [Ya N1] at H;have D2:=Zd N1;have m2:decide (0<l2.length)=true:=Zd (by omega);clear N1;have H':=Za H;clear H
   go_wp2_with (first|(go_at_call 98;(with_reducible refine (aez.calls k a0 _ _ l2 true _ (xd_ (Kd.aMz K0.o HB.o)) (W0.o) A6.o).mono ?_);rintro e w' ⟨rfl,⟨nd,rfl⟩⟩;(try exact dd_))|(go_at_call 98;(with_reducible refine (aez.calls k a0 _ _ l3 true _ (xd_ (Kd.aMz b1.o bl_)) (s1.o) A8.o).mono ?_);rintro e w' ⟨rfl,⟨nd,rfl⟩⟩;(try exact dd_);have t0:0<=(0:Int):=(by omega);have u0:0<(l2.length:Int):=Zc as_;obtain ⟨_,S0,Q0,N0,b0,i0,h0⟩:=at_L4 K0.o 0 t0 u0;cases N0;have i1:(0<l2.length)=True:=Zz (by omega);(try rw [show ((0:Int)).toNat=0 from rfl] at b0);(try rw [Addr.add_zero'] at b0);replace b0:=(HB.o.cell (Zj w _ b0)).trans b0;have H0:=Za h0;have E0:=Za i0;clear h0 i0;replace t0:=Zz t0;replace u0:=Zz u0))
   repeat (go_quiet (first|(go_at_call 98;(with_reducible refine (aez.calls k a0 _ _ l2 true _ (xd_ (Kd.aMz K0.o HB.o)) (W0.o) A6.o).mono ?_);rintro e w' ⟨rfl,⟨nd,rfl⟩⟩;(try exact dd_))|(go_at_call 98;(with_reducible refine (aez.calls k a0 _ _ l3 true _ (xd_ (Kd.aMz b1.o bl_)) (s1.o) A8.o).mono ?_);rintro e w' ⟨rfl,⟨nd,rfl⟩⟩;(try exact dd_);have t0:0<=(0:Int):=(by omega);have u0:0<(l2.length:Int):=Zc as_;obtain ⟨_,S0,Q0,N0,b0,i0,h0⟩:=at_L4 K0.o 0 t0 u0;cases N0;have i1:(0<l2.length)=True:=Zz (by omega);(try rw [show ((0:Int)).toNat=0 from rfl] at b0);(try rw [Addr.add_zero'] at b0);replace b0:=(HB.o.cell (Zj w _ b0)).trans b0;have H0:=Za h0;have E0:=Za i0;clear h0 i0;replace t0:=Zz t0;replace u0:=Zz u0));try go_wp2_with (first|(go_at_call 98;(with_reducible refine (aez.calls k a0 _ _ l2 true _ (xd_ (Kd.aMz K0.o HB.o)) (W0.o) A6.o).mono ?_);rintro e w' ⟨rfl,⟨nd,rfl⟩⟩;(try exact dd_))|(go_at_call 98;(with_reducible refine (aez.calls k a0 _ _ l3 true _ (xd_ (Kd.aMz b1.o bl_)) (s1.o) A8.o).mono ?_);rintro e w' ⟨rfl,⟨nd,rfl⟩⟩;(try exact dd_);have t0:0<=(0:Int):=(by omega);have u0:0<(l2.length:Int):=Zc as_;obtain ⟨_,S0,Q0,N0,b0,i0,h0⟩:=at_L4 K0.o 0 t0 u0;cases N0;have i1:(0<l2.length)=True:=Zz (by omega);(try rw [show ((0:Int)).toNat=0 from rfl] at b0);(try rw [Addr.add_zero'] at b0);replace b0:=(HB.o.cell (Zj w _ b0)).trans b0;have H0:=Za h0;have E0:=Za i0;clear h0 i0;replace t0:=Zz t0;replace u0:=Zz u0)))
   go_meet
   case rel=>exact ⟨_,((((rd_L4 l2 0).length:Int) !=(l3.length:Int))),sd_,H',⟨by first|omega|exact Zv _⟩,⟨bl_⟩⟩
  ·rw [Yb N1] at H;exact Yf H (by simp)
 case rest=>
  clear f2;obtain ⟨kq,D0,rfl,HA,v1,HB⟩:=hcut;rcases kq with _|w2
  ·exact Yf HA.o (by simp [akz.j0])
  have H:=HA.o;clear HA;simp only [akz.j0] at H;by_cases L1:D0=true
  ·subst L1;rw [Ya rfl] at H;simp only [Zx,Zy] at H;obtain ⟨rfl,rfl⟩:=H;go_wp2;go_ret2;exact ⟨_,er_,nl_,bl_⟩
  ·replace L1:=Zr L1;subst L1;rw [Yb (show¬(false=true) by decide)] at H;have H':=Za H;clear H;go_wp2
   go_loopg [10,11] w2 (fun kq J2 H2 w'=> ∃(o0:List (List Int)) (k0:Int),H2= .int .i64 k0/\Aside0 (akz.l0 kq a0 a1 l2 l3 o0 k0=some (r1,r2))/\Aside0 (kq<=w2)/\Aside0 (Kd.S (Kd.slice 3 (Kd.int .i64)) 57 w' w.heap.size (fun _=>True) J2 o0)/\Aside0 (Below w.heap.size w w'))
   case atStart=>exact ⟨(([] :List (List Int))),(0),sd_,H',⟨Zv _⟩,⟨nl_⟩,⟨bl_⟩⟩
   clear H';obtain ⟨o0,k0,rfl,HA,z1,c0,HB⟩:=hrel;rcases gk with _|k2
   ·exact Yf HA.o (by simp [akz.l0])
   have H:=HA.o;clear HA;simp only [akz.l0] at H;by_cases y1:k0<(l2.length:Int)
   rotate_left
   ·rw [Yb y1] at H;have f1:=Ze y1;clear y1;simp only [Zx,Zy] at H;obtain ⟨rfl,rfl⟩:=H;go_wp2;go_ret2;exact ⟨_,er_,xd_ c0.o,bl_⟩
   rw [Ya y1] at H;have f1:=Zd y1;clear y1;have H':=Za H;clear H;go_wp2
   go_loopg [12,13] k2 (fun kq j2 L2 w'=> ∃(e0:List Int) (p0:Int),L2= .int .i64 p0/\Aside0 (akz.l1 kq a0 a1 l2 l3 o0 k0 e0 p0=some (r1,r2))/\Aside0 (kq<=k2)/\Aside0 (Kd.S (Kd.slice 3 (Kd.int .i64)) 57 w' w.heap.size (fun k_=>some k_≠(j2:Value).ownBlock) u10 o0)/\Aside0 (Kd.R (Kd.int .i64) 3 w' w.heap.size (fun _=>True) j2 e0)/\Aside0 (Below w.heap.size w w'))
   case atStart=>exact ⟨(([] :List Int)),(0),sd_,H',⟨Zv _⟩,⟨sm_ c0⟩,⟨nl_⟩,⟨bl_⟩⟩
   clear H';clear f1;obtain ⟨e0,p0,rfl,HA,u1,c0,f0,HB⟩:=hrel;rcases gk with _|k3
   ·exact Yf HA.o (by simp [akz.l1])
   have H:=HA.o;clear HA;simp only [akz.l1] at H;obtain ⟨v2,H⟩:=ig_ H;have E1:=Zd v2;have I1:decide (0<l3.length)=true:=Zd (by omega);clear v2;by_cases A1:p0<((rd_L4 l3 0).length:Int)
   rotate_left
   ·rw [Yb A1] at H;have e1:=Ze A1;clear A1;obtain ⟨T0,H⟩:=ij_ H;obtain ⟨W1,C0⟩: ∃y_:List (List Int),y_=(o0++ [e0]):=⟨_,rfl⟩
    first|rw [Zl, <-C0] at H|rw [<-C0] at H
    (try dsimp only at H)
    have R0:=Za C0;clear C0;have H':=Za H;clear H;have A0:0<=(0:Int):=(by omega);have z0:0<(l3.length:Int):=Zc as_;obtain ⟨g1,o1,j1,n1,d0,r0,q0⟩:=at_L4 b1.o 0 A0 z0;cases n1
    have B1:(0<l3.length)=True:=Zz (by omega)
    (try rw [show ((0:Int)).toNat=0 from rfl] at d0)
    (try rw [Addr.add_zero'] at d0)
    replace d0:=(HB.o.cell (Zj w _ d0)).trans d0;have c1:=Za q0;have Y0:=Za r0;clear q0 r0;replace A0:=Zz A0;replace z0:=Zz z0;obtain ⟨M0,L0,S1⟩:=Kd.aQz f0.o;subst S1
    go_wp2_with (first|((with_reducible refine amz (b:= .append) (xs:= #[.tmp 78, .tmp 80]) rfl ?_);(try (refine aYz (by rfl) ?_;dsimp only));at_builtin;refine Kd.bLz (Kd.slice 3 (Kd.int .i64)) (w0:=w) w.heap.size rfl (.tmp 78) (.tmp 80) 68 57 (.slice none 0 0) 24 rfl underlying68 info57 rfl (by decide) (by omega) u10 o0 e0 [.slice M0 e0.length L0] (fun _=>True) (fun k_=>some k_=(.slice M0 e0.length L0:Value).ownBlock) rfl rfl (Kd.M_row (Kd.aKz (Kd.b5z rfl (Kd.aKz (ok':=fun k_=>((fun _=>True)) k_/\some k_≠(u10:Value).ownBlock) (Kd.bqz (f0.o) (Kd.bFz c0.o) (by decide)) (fun k_ hk=>⟨trivial,hk.2⟩))) (fun _ h_=>h_))) (fun k_ C1=>((Kd.aKz (ok':=fun k_=>((fun _=>True)) k_/\some k_≠(u10:Value).ownBlock) (Kd.bqz (f0.o) (Kd.bFz c0.o) (by decide)) (fun k_ hk=>⟨trivial,hk.2⟩))).1 k_ C1.symm) (fun _ _=>trivial) (sm_ c0) bl_ (adz bl_) (by have:=T0.o;omega) ?_;intro G1 y2 ho hb hg hat;rw [<-R0.o] at ho;have n_:=Zb (Za (hb)) (Za (ho));clear HB c0 f0;obtain ⟨HB,O0⟩:=n_;clear ho hb hg hat))
    repeat (go_quiet (first|((with_reducible refine amz (b:= .append) (xs:= #[.tmp 78, .tmp 80]) rfl ?_);(try (refine aYz (by rfl) ?_;dsimp only));at_builtin;refine Kd.bLz (Kd.slice 3 (Kd.int .i64)) (w0:=w) w.heap.size rfl (.tmp 78) (.tmp 80) 68 57 (.slice none 0 0) 24 rfl underlying68 info57 rfl (by decide) (by omega) u10 o0 e0 [.slice M0 e0.length L0] (fun _=>True) (fun k_=>some k_=(.slice M0 e0.length L0:Value).ownBlock) rfl rfl (Kd.M_row (Kd.aKz (Kd.b5z rfl (Kd.aKz (ok':=fun k_=>((fun _=>True)) k_/\some k_≠(u10:Value).ownBlock) (Kd.bqz (f0.o) (Kd.bFz c0.o) (by decide)) (fun k_ hk=>⟨trivial,hk.2⟩))) (fun _ h_=>h_))) (fun k_ C1=>((Kd.aKz (ok':=fun k_=>((fun _=>True)) k_/\some k_≠(u10:Value).ownBlock) (Kd.bqz (f0.o) (Kd.bFz c0.o) (by decide)) (fun k_ hk=>⟨trivial,hk.2⟩))).1 k_ C1.symm) (fun _ _=>trivial) (sm_ c0) bl_ (adz bl_) (by have:=T0.o;omega) ?_;intro G1 y2 ho hb hg hat;rw [<-R0.o] at ho;have n_:=Zb (Za (hb)) (Za (ho));clear HB c0 f0;obtain ⟨HB,O0⟩:=n_;clear ho hb hg hat));try go_wp2_with (first|((with_reducible refine amz (b:= .append) (xs:= #[.tmp 78, .tmp 80]) rfl ?_);(try (refine aYz (by rfl) ?_;dsimp only));at_builtin;refine Kd.bLz (Kd.slice 3 (Kd.int .i64)) (w0:=w) w.heap.size rfl (.tmp 78) (.tmp 80) 68 57 (.slice none 0 0) 24 rfl underlying68 info57 rfl (by decide) (by omega) u10 o0 e0 [.slice M0 e0.length L0] (fun _=>True) (fun k_=>some k_=(.slice M0 e0.length L0:Value).ownBlock) rfl rfl (Kd.M_row (Kd.aKz (Kd.b5z rfl (Kd.aKz (ok':=fun k_=>((fun _=>True)) k_/\some k_≠(u10:Value).ownBlock) (Kd.bqz (f0.o) (Kd.bFz c0.o) (by decide)) (fun k_ hk=>⟨trivial,hk.2⟩))) (fun _ h_=>h_))) (fun k_ C1=>((Kd.aKz (ok':=fun k_=>((fun _=>True)) k_/\some k_≠(u10:Value).ownBlock) (Kd.bqz (f0.o) (Kd.bFz c0.o) (by decide)) (fun k_ hk=>⟨trivial,hk.2⟩))).1 k_ C1.symm) (fun _ _=>trivial) (sm_ c0) bl_ (adz bl_) (by have:=T0.o;omega) ?_;intro G1 y2 ho hb hg hat;rw [<-R0.o] at ho;have n_:=Zb (Za (hb)) (Za (ho));clear HB c0 f0;obtain ⟨HB,O0⟩:=n_;clear ho hb hg hat)))
    go_roundg k3
    case measure=>have:=v1.o;have:=z1.o;have:=u1.o;omega
    case rel=>exact ⟨(W1),(wrap64 (k0+1)),sd_,H',⟨by have:=v1.o;have:=z1.o;have:=u1.o;omega⟩,⟨xd_ O0.o⟩,⟨bl_⟩⟩
   rw [Ya A1] at H;have e1:=Zd A1;clear A1;have H':=Za H;clear H;have A0:0<=(0:Int):=(by omega);have z0:0<(l3.length:Int):=Zc as_;obtain ⟨g1,o1,j1,n1,d0,r0,q0⟩:=at_L4 b1.o 0 A0 z0;cases n1
   have B1:(0<l3.length)=True:=Zz (by omega)
   (try rw [show ((0:Int)).toNat=0 from rfl] at d0)
   (try rw [Addr.add_zero'] at d0)
   replace d0:=(HB.o.cell (Zj w _ d0)).trans d0;have c1:=Za q0;have Y0:=Za r0;clear q0 r0;replace A0:=Zz A0;replace z0:=Zz z0;go_wp2
   go_loopg [14,15] k3 (fun kq G2 F2 w'=> ∃(n0:Int) (g0:Int),G2= .int .i64 n0/\F2= .int .i64 g0/\Aside0 (akz.l2 kq a0 a1 l2 l3 o0 k0 e0 p0 n0 g0=some (r1,r2))/\Aside0 (kq<=k3)/\Aside0 (Kd.S (Kd.slice 3 (Kd.int .i64)) 57 w' w.heap.size (fun k_=>some k_≠(u12:Value).ownBlock) u10 o0)/\Aside0 (Kd.R (Kd.int .i64) 3 w' w.heap.size (fun _=>True) u12 e0)/\Aside0 (Below w.heap.size w w'))
   case atStart=>exact ⟨(0),(0),sd_,sd_,H',⟨Zv _⟩,⟨xd_ c0.o⟩,⟨xd_ f0.o⟩,⟨bl_⟩⟩
   clear H';clear E1 I1 e1 d0 A0 z0;obtain ⟨n0,g0,rfl,rfl,HA,M1,c0,f0,HB⟩:=hrel;rcases gk with _|k4
   ·exact Yf HA.o (by simp [akz.l2])
   have H:=HA.o;clear HA;simp only [akz.l2] at H;by_cases t1:g0<(l3.length:Int)
   rotate_left
   ·rw [Yb t1] at H;have F1:=Ze t1;clear t1;obtain ⟨V0,H⟩:=ij_ H;obtain ⟨U1,F0⟩: ∃y_:List Int,y_=(e0++ [n0]):=⟨_,rfl⟩
    first|rw [Zl, <-F0] at H|rw [<-F0] at H
    (try dsimp only at H)
    have P0:=Za F0;clear F0;have H':=Za H;clear H
    go_wp2_with (first|((with_reducible refine amz (b:= .append) (xs:= #[.tmp 74, .tmp 76]) rfl ?_);(try (refine aYz (by rfl) ?_;dsimp only));at_builtin;refine Kd.brz (Kd.int .i64) (w0:=w) w.heap.size rfl (.tmp 74) (.tmp 76) 57 3 (.int .i64 0) 8 rfl underlying57 info3 rfl (by decide) (by omega) u12 e0 n0 [.int .i64 n0] (fun _=>True) (fun _=>False) rfl rfl rfl (fun _ hk=>hk.elim) (fun _ _=>trivial) (xd_ f0.o) bl_ (adz bl_) (by have:=V0.o;omega) ?_;intro H1 B2 ho hb hg hat;rw [<-P0.o] at ho;have n_:=Zb (Za (Kd.cFz (ok:=(fun _=>True)) (sm_ c0) hg hat)) (Zb (Za (hb)) (Za (ho)));clear c0 HB f0;obtain ⟨c0,HB,U0⟩:=n_;clear ho hb hg hat))
    repeat (go_quiet (first|((with_reducible refine amz (b:= .append) (xs:= #[.tmp 74, .tmp 76]) rfl ?_);(try (refine aYz (by rfl) ?_;dsimp only));at_builtin;refine Kd.brz (Kd.int .i64) (w0:=w) w.heap.size rfl (.tmp 74) (.tmp 76) 57 3 (.int .i64 0) 8 rfl underlying57 info3 rfl (by decide) (by omega) u12 e0 n0 [.int .i64 n0] (fun _=>True) (fun _=>False) rfl rfl rfl (fun _ hk=>hk.elim) (fun _ _=>trivial) (xd_ f0.o) bl_ (adz bl_) (by have:=V0.o;omega) ?_;intro H1 B2 ho hb hg hat;rw [<-P0.o] at ho;have n_:=Zb (Za (Kd.cFz (ok:=(fun _=>True)) (sm_ c0) hg hat)) (Zb (Za (hb)) (Za (ho)));clear c0 HB f0;obtain ⟨c0,HB,U0⟩:=n_;clear ho hb hg hat));try go_wp2_with (first|((with_reducible refine amz (b:= .append) (xs:= #[.tmp 74, .tmp 76]) rfl ?_);(try (refine aYz (by rfl) ?_;dsimp only));at_builtin;refine Kd.brz (Kd.int .i64) (w0:=w) w.heap.size rfl (.tmp 74) (.tmp 76) 57 3 (.int .i64 0) 8 rfl underlying57 info3 rfl (by decide) (by omega) u12 e0 n0 [.int .i64 n0] (fun _=>True) (fun _=>False) rfl rfl rfl (fun _ hk=>hk.elim) (fun _ _=>trivial) (xd_ f0.o) bl_ (adz bl_) (by have:=V0.o;omega) ?_;intro H1 B2 ho hb hg hat;rw [<-P0.o] at ho;have n_:=Zb (Za (Kd.cFz (ok:=(fun _=>True)) (sm_ c0) hg hat)) (Zb (Za (hb)) (Za (ho)));clear c0 HB f0;obtain ⟨c0,HB,U0⟩:=n_;clear ho hb hg hat)))
    go_roundg k4
    case measure=>have:=v1.o;have:=z1.o;have:=u1.o;have:=M1.o;omega
    case rel=>exact ⟨(U1),(wrap64 (p0+1)),sd_,H',⟨by have:=v1.o;have:=z1.o;have:=u1.o;have:=M1.o;omega⟩,⟨sm_ c0⟩,⟨xd_ U0.o⟩,⟨bl_⟩⟩
   rw [Ya t1] at H;have F1:=Zd t1;clear t1;obtain ⟨C2,H⟩:=ih_ H;obtain ⟨o2,H⟩:=ih_ H;obtain ⟨t2,H⟩:=ih_ H;obtain ⟨z2,H⟩:=ih_ H;obtain ⟨u2,H⟩:=ih_ H;obtain ⟨g2,H⟩:=ih_ H;obtain ⟨d1,R1,H⟩:=ob_ H
   (try dsimp only at H)
   have H':=Za H;clear H;have q1:0<=(k0:Int):=Zc as_;have p1:k0<(l2.length:Int):=Zc as_;obtain ⟨_,e2,Q1,T1,v0,I0,G0⟩:=at_L4 K0.o k0 q1 p1;cases T1
   replace v0:=(HB.o.cell (Zj w _ v0)).trans v0;have X0:=Za G0;have O1:=Za I0;clear G0 I0;replace q1:=Zz q1;replace p1:=Zz p1;obtain ⟨_,a2,P1,K2,E2⟩:=iy_ X0.o HB g0 as_ as_;cases a2
   have m1:0<=(g0:Int):=Zc as_;have k1:g0<(l3.length:Int):=Zc as_;obtain ⟨D1,Y1,Z1,b2,y0,B0,J0⟩:=at_L4 b1.o g0 m1 k1;obtain rfl:g1=D1:=(by injection b2);replace y0:=(HB.o.cell (Zj w _ y0)).trans y0;have Z0:=Za J0;have J1:=Za B0;clear J0 B0;replace m1:=Zz m1;replace k1:=Zz k1;obtain ⟨_,X1,K1,M2,I2⟩:=iy_ Z0.o HB p0 as_ as_;cases X1
   go_wp2_with (first|(go_at_call 107;(with_reducible refine (aBz.calls k4 a0 a1 (rd (rd_L4 l2 k0) g0) (rd (rd_L4 l3 g0) p0) d1 _ R1.o).mono ?_);rintro e w' ⟨rfl,⟨nd,rfl⟩⟩;(try exact dd_)))
   repeat (go_quiet (first|(go_at_call 107;(with_reducible refine (aBz.calls k4 a0 a1 (rd (rd_L4 l2 k0) g0) (rd (rd_L4 l3 g0) p0) d1 _ R1.o).mono ?_);rintro e w' ⟨rfl,⟨nd,rfl⟩⟩;(try exact dd_)));try go_wp2_with (first|(go_at_call 107;(with_reducible refine (aBz.calls k4 a0 a1 (rd (rd_L4 l2 k0) g0) (rd (rd_L4 l3 g0) p0) d1 _ R1.o).mono ?_);rintro e w' ⟨rfl,⟨nd,rfl⟩⟩;(try exact dd_))))
   go_roundg k4
   case measure=>have:=v1.o;have:=z1.o;have:=u1.o;have:=M1.o;omega
   case rel=>exact ⟨(Go.bits .xor .i64 n0 d1),(wrap64 (g0+1)),sd_,sd_,H',⟨by have:=v1.o;have:=z1.o;have:=u1.o;have:=M1.o;omega⟩,⟨xd_ c0.o⟩,⟨xd_ f0.o⟩,⟨bl_⟩⟩
def atz.l0:Nat->Int->Int->List (List Int)->List Int->Int->Option ((List (List Int))×Bool)
 |0,_,_,_,_,_=>none
 |k+1,x2,x3,x10,x12,x13=>if x13<x2 then (if x13=(wrap64 (x2 - 1)) then (if x12.length<17592186044416 then (atz.l0 k x2 x3 x10 (x12++ [1]) (wrap64 (x13+1))) else (none)) else (if x12.length<17592186044416 then (atz.l0 k x2 x3 x10 (x12++ [0]) (wrap64 (x13+1))) else (none))) else (if 0<=(wrap64 ((wrap64 (x2+x3)) - 1)) then (if (wrap64 ((wrap64 (x2+x3)) - 1))<(x10.length:Int) then (some ((x10.set ((wrap64 ((wrap64 (x2+x3)) - 1)):Int).toNat x12),true)) else (none)) else (none))
def atz.f (k:Nat) (a0 a1 a2:Int) (a3:Int):Option ((List (List Int))×Bool):=(bkz.f a2 a3).bind fun t223=>(if t223=true then ((apz.f k a0 a1 (wrap64 (a2+a3)) a2).bind fun bt224=>(atz.l0 k a2 a3 bt224.1 ([] :List Int) 0)) else (some (([] :List (List Int)),false)))
theorem atz.a6z: ∀k,(∀y0 y1 y2 y3 y4,LeO (atz.l0 k y0 y1 y2 y3 y4) (atz.l0 (k+1) y0 y1 y2 y3 y4))
 |0=>fun _ _ _ _ _ r h=>by simp [atz.l0] at h
 |k+1=>by
  have a0:=atz.a6z k
  ·intro y0 y1 y2 y3 y4;unfold atz.l0
   repeat' with_reducible first|apply a0|apply apz.mono|apply Yg|apply Yh|apply Yi|refine Yj ?_ fun _=>?_
theorem atz.mono: ∀a0 a1 a2 a3 k,LeO (atz.f k a0 a1 a2 a3) (atz.f (k+1) a0 a1 a2 a3):=by
 intro a0 a1 a2 a3 k;have b0:=atz.a6z k;unfold atz.f
 repeat' with_reducible first|apply b0|apply apz.mono|apply Yg|apply Yh|apply Yi|refine Yj ?_ fun _=>?_
theorem atz.calls (k:Nat) (a0 a1 a2 a3:Int) (r1:List (List Int)) (r2:Bool) (w:World) (h:atz.f k a0 a1 a2 a3=some (r1,r2)):
  Calls prog 126 #[.int .i64 a0, .int .u32 a1, .int .i64 a2, .int .i64 a3] w fun e w'=> ∃y1:Value,e= .returned (.tuple #[y1, .bool r2])/\Kd.S (Kd.slice 3 (Kd.int .i64)) 57 w' w.heap.size (fun _=>True) y1 r1/\Below w.heap.size w w':=by
 have HB:=Za (Zw w.heap.size w);have H:=h;clear h;unfold atz.f at H;obtain ⟨q1,A5,H⟩:=ob_ H
 (try dsimp only at H)
 by_cases c6:q1=true
 rotate_left
 ·replace c6:=Zr c6;subst c6;rw [Yb (show¬(false=true) by decide)] at H;simp only [Zx,Zy] at H;obtain ⟨rfl,rfl⟩:=H;go_enter func126,ntmps126
  go_wp2_with (first|((with_reducible refine aaz (f:=129) rfl ?_);refine gl_ (some 17) func129 #[.int .i64 a2, .int .i64 a3] ?_;(with_reducible refine (bkz.calls a2 a3 false _ A5.o).mono ?_);rintro e w' ⟨rfl,⟨nd,rfl⟩⟩;refine ⟨_,rfl,?_⟩))
  go_ret2;exact ⟨_,er_,nl_,bl_⟩
 subst c6;rw [Ya rfl] at H;obtain ⟨⟨f0,m1⟩,A7,H⟩:=ob_ H
 (try dsimp only at H)
 have H':=Za H;clear H;go_enter func126,ntmps126
 go_wp2_with (first|((with_reducible refine aaz (f:=129) rfl ?_);refine gl_ (some 17) func129 #[.int .i64 a2, .int .i64 a3] ?_;(with_reducible refine (bkz.calls a2 a3 true _ A5.o).mono ?_);rintro e w' ⟨rfl,⟨nd,rfl⟩⟩;refine ⟨_,rfl,?_⟩)|((with_reducible refine aaz (f:=133) rfl ?_);refine gl_ (some 26) func133 #[.int .i64 a0, .int .u32 a1, .int .i64 (wrap64 (a2+a3)), .int .i64 a2] ?_;(with_reducible refine (apz.calls k a0 a1 (wrap64 (a2+a3)) a2 f0 m1 _ A7.o).mono ?_);rintro e w8 ⟨n1,rfl,C1,hb⟩;refine ⟨_,rfl,?_⟩;have n_:=Zb (Za (Kd.cMz C1 (adz bl_))) (hs_ HB hb);clear HB;obtain ⟨O0,HB⟩:=n_;clear hb C1))
 go_loopg [12,13] k (fun kq t1 L1 w'=> ∃(d0:List Int) (c0:Int),L1= .int .i64 c0/\Aside0 (atz.l0 kq a2 a3 f0 d0 c0=some (r1,r2))/\Aside0 (kq<=k)/\Aside0 (Kd.S (Kd.slice 3 (Kd.int .i64)) 57 w' w.heap.size (fun k_=>some k_≠(t1:Value).ownBlock) n1 f0)/\Aside0 (Kd.R (Kd.int .i64) 3 w' w.heap.size (fun _=>True) t1 d0)/\Aside0 (Below w.heap.size w w'))
 case atStart=>exact ⟨(([] :List Int)),(0),sd_,H',⟨Zv _⟩,⟨sm_ O0⟩,⟨nl_⟩,⟨bl_⟩⟩
 clear H';obtain ⟨d0,c0,rfl,HA,U0,b0,e0,HB⟩:=hrel;rcases gk with _|k1
 ·exact Yf HA.o (by simp [atz.l0])
 have H:=HA.o;clear HA;simp only [atz.l0] at H;by_cases c9:c0<a2
 ·rw [Ya c9] at H;have j1:=Zd c9;clear c9;by_cases y0:c0=(wrap64 (a2 - 1))
  rotate_left
  ·rw [Yb y0] at H;have S0:(c0==(wrap64 (a2 - 1)))=false:=Zq y0;have F0:(c0 !=(wrap64 (a2 - 1)))=true:=Yd y0;obtain ⟨M0,H⟩:=ij_ H;obtain ⟨b1,k0⟩: ∃y_:List Int,y_=(d0++ [0]):=⟨_,rfl⟩
   first|rw [Zl, <-k0] at H|rw [<-k0] at H
   (try dsimp only at H)
   have R0:=Za k0;clear k0;have H':=Za H;clear H
   go_wp2_with (first|((with_reducible refine amz (b:= .append) (xs:= #[.tmp 38, .tmp 40]) rfl ?_);at_builtin;refine Kd.brz (Kd.int .i64) (w0:=w) w.heap.size rfl (.tmp 38) (.tmp 40) 57 3 (.int .i64 0) 8 rfl underlying57 info3 rfl (by decide) (by omega) u12 d0 0 [.int .i64 0] (fun _=>True) (fun _=>False) rfl rfl rfl (fun _ hk=>hk.elim) (fun _ _=>trivial) (xd_ e0.o) bl_ (adz bl_) (by have:=M0.o;omega) ?_;intro J1 Q1 ho hb hg hat;rw [<-R0.o] at ho;have n_:=Zb (Za (Kd.cFz (ok:=(fun _=>True)) (sm_ b0) hg hat)) (Zb (Za (hb)) (Za (ho)));clear b0 HB e0;obtain ⟨b0,HB,I0⟩:=n_;clear ho hb hg hat))
   go_roundg k1
   case measure=>have:=U0.o;omega
   case rel=>exact ⟨(b1),(wrap64 (c0+1)),sd_,H',⟨by have:=U0.o;omega⟩,⟨sm_ b0⟩,⟨xd_ I0.o⟩,⟨bl_⟩⟩
  rw [Ya y0] at H;have S0:(c0==(wrap64 (a2 - 1)))=true:=Ye y0;have F0:(c0 !=(wrap64 (a2 - 1)))=false:=Yc y0;clear y0;obtain ⟨H0,H⟩:=ij_ H;obtain ⟨Y0,i0⟩: ∃y_:List Int,y_=(d0++ [1]):=⟨_,rfl⟩
  first|rw [Zl, <-i0] at H|rw [<-i0] at H
  (try dsimp only at H)
  have D0:=Za i0;clear i0;have H':=Za H;clear H
  go_wp2_with (first|((with_reducible refine amz (b:= .append) (xs:= #[.tmp 38, .tmp 40]) rfl ?_);at_builtin;refine Kd.brz (Kd.int .i64) (w0:=w) w.heap.size rfl (.tmp 38) (.tmp 40) 57 3 (.int .i64 0) 8 rfl underlying57 info3 rfl (by decide) (by omega) u12 d0 1 [.int .i64 1] (fun _=>True) (fun _=>False) rfl rfl rfl (fun _ hk=>hk.elim) (fun _ _=>trivial) (xd_ e0.o) bl_ (adz bl_) (by have:=H0.o;omega) ?_;intro G1 P1 ho hb hg hat;rw [<-D0.o] at ho;have n_:=Zb (Za (Kd.cFz (ok:=(fun _=>True)) (sm_ b0) hg hat)) (Zb (Za (hb)) (Za (ho)));clear b0 HB e0;obtain ⟨b0,HB,Q0⟩:=n_;clear ho hb hg hat))
  go_roundg k1
  case measure=>have:=U0.o;omega
  case rel=>exact ⟨(Y0),(wrap64 (c0+1)),sd_,H',⟨by have:=U0.o;omega⟩,⟨sm_ b0⟩,⟨xd_ Q0.o⟩,⟨bl_⟩⟩
 ·rw [Yb c9] at H;have j1:=Ze c9;clear c9;obtain ⟨g0,h0⟩: ∃j_:Int,(wrap64 ((wrap64 (a2+a3)) - 1))=j_:=⟨_,rfl⟩
  replace H:(if 0<=(g0) then (if (g0)<(f0.length:Int) then (some ((f0.set ((g0):Int).toNat d0),true)) else (none)) else (none))=some (r1,r2):=by first|(rw [h0] at H;exact H)|(simp only [h0] at H|-;exact H)
  have i1:(IntKind.i64.wrap ((wrap64 (a2+a3)) - 1))=g0:=(i64_w _).trans h0;obtain ⟨D1,H⟩:=ih_ H;obtain ⟨v1,H⟩:=ih_ H;obtain ⟨s1,j0⟩: ∃y_:List (List Int),y_=(f0.set ((g0):Int).toNat d0):=⟨_,rfl⟩
  first|rw [Zl, <-j0] at H|rw [<-j0] at H
  (try dsimp only at H)
  have K0:=Za j0;clear j0;simp only [Zx,Zy] at H;obtain ⟨rfl,rfl⟩:=H;have g1:0<=((g0):Int):=Zc as_;have o1:((g0):Int)<((f0.length:Int):Int):=Zc as_;obtain ⟨n0,E0,P0,G0,d1,I1,N0⟩:=Kd.S_form b0.o (by omega)
  (first|cases P0|(injection P0 with T0 K1 M1;(first|subst T0|(injection T0 with T0;subst T0));subst M1;clear K1))
  have Z0:=Za G0;have O1:=Za N0;clear G0 d1 N0;obtain ⟨_,N1,C0,W0,t0,q0,_,_⟩:=Kd.S_elem b0.o [] ((g0):Int) g1 o1;obtain ⟨X0,rfl,c1⟩:=W0;have u0:=t0 0 _ rfl;have A0:=q0 0
  (try simp only [show ((Kd.slice 3 (Kd.int .i64))).sz=1 from rfl,Nat.mul_one,Nat.add_zero] at u0)
  (try simp only [show ((Kd.slice 3 (Kd.int .i64))).sz=1 from rfl,Nat.mul_one,Nat.add_zero] at A0)
  clear C0 t0 q0;replace g1:=Zz g1;replace o1:=Zz o1;have l1:=Za (show Kd.S (Kd.slice 3 (Kd.int .i64)) 57 wr w.heap.size (fun k_=>((fun _=>True)) k_/\ ¬((fun k_=>some k_=(u12:Value).ownBlock)) k_) (.slice (some ⟨n0,0,none⟩) f0.length E0) f0 from (sm_ b0));obtain ⟨A1,F1,J0,p1,r0,p0,v0,L0⟩:=Kd.S_elem l1.o [] ((g0):Int) (Zc as_) (by have h_:((g0):Int)<((f0.length:Int):Int):=Zc as_;first|exact h_|(have e_:=(Kd.S_reads' b0.o).1;omega)|simpa using h_);obtain ⟨V0,rfl,e1⟩:=p1;have o0:=Kd.S_seg L0 (Zc as_) (by have h_:((g0):Int)<((f0.length:Int):Int):=Zc as_;first|exact h_|(have e_:=(Kd.S_reads' b0.o).1;omega)|simpa using h_) (seg:= [u12]) (j:=0) (show 1<=1 from by decide) (x':=d0) (Kd.M_row (Kd.aKz (Kd.b5z rfl (Kd.aKz (ok':=fun k_=>((fun _=>True)) k_/\k_≠n0) (Kd.bqz (e0.o) (Kd.bFz b0.o) (by decide)) (fun k_ hk=>⟨trivial,fun e_=>(hk.2) (by rw [e_];rfl)⟩))) (fun _ h_=>Or.inr (h_)))) (fun _ hk=>hk) (fun k_ H1=>((Kd.aKz (ok':=fun k_=>((fun _=>True)) k_/\k_≠n0) (Kd.bqz (e0.o) (Kd.bFz b0.o) (by decide)) (fun k_ hk=>⟨trivial,fun e_=>(hk.2) (by rw [e_];rfl)⟩))).1 k_ H1.symm)
  have B0:=r0 0 _ rfl
  (try simp only [show ((Kd.slice 3 (Kd.int .i64))).sz=1 from rfl,Nat.mul_one,Nat.add_zero] at B0)
  have z0:=p0 0
  (try simp only [show ((Kd.slice 3 (Kd.int .i64))).sz=1 from rfl,Nat.mul_one,Nat.add_zero] at z0)
  clear J0 r0 p0  v0 L0
  (try simp only [show ((Kd.slice 3 (Kd.int .i64))).sz=1 from rfl,Nat.mul_one,Nat.add_zero] at o0)
  obtain ⟨E1,z1,u1⟩:=Kd.aQz e0.o
  go_wp2_with (first|((with_reducible refine dbz (t:=57) (p:=48) rfl ?_);refine dDz (t:=57) (p:=48) (v:= ?vo_w20) (w1:=(wr.setCell ⟨n0,((g0):Int).toNat,none⟩ (u12))) ?hg ?ho ?hn ?hr ?_;(case ho=>rfl);(case hg=>rfl);(case hn=>rfl);(case hr=>first|(go_simp;done)|(go_simp;rfl));intro f1 hw;have hg:wr.grownBy f1 (some n0):=(by rw [hw];exact o0.2);have B1:Kd.S (Kd.slice 3 (Kd.int .i64)) 57 f1 w.heap.size (fun _=>True) (.slice (some ⟨n0,0,none⟩) f0.length E0) s1:=(by rw [hw,K0.o];exact o0.1);clear o0;have n_:=Zb (Za (B1)) (Za ((by rw [hw];exact dqz (HB.o) Z0.o:Below w.heap.size w f1)));clear b0 HB e0;obtain ⟨b0,HB⟩:=n_;clear hg hw B1))
  go_ret2;exact ⟨_,by first|rfl|(simp [cIz,cJz] <;>rfl)|(simp only [<-h0];first|rfl|(simp [cIz,cJz] <;>rfl))|(simp [*,cIz,cJz] <;>rfl),xd_ b0.o,bl_⟩
def bPz.f (k:Nat) (a0 a1 a2:Int) (a3:Int):Option (Int×Bool):=(asz.f k a0 a1 a3).bind fun bt250=>(if bt250.2=true then ((afz.f k a0 a2).bind fun t252=>(if t252=true then ((aBz.f k a0 a1 a2 bt250.1).bind fun t253=>(some (t253,true))) else (some (0,false)))) else (some (0,false)))
theorem bPz.mono: ∀a0 a1 a2 a3 k,LeO (bPz.f k a0 a1 a2 a3) (bPz.f (k+1) a0 a1 a2 a3):=by
 intro a0 a1 a2 a3 k;unfold bPz.f
 repeat' with_reducible first|apply afz.mono|apply asz.mono|apply aBz.mono|apply Yg|apply Yh|apply Yi|refine Yj ?_ fun _=>?_
theorem bPz.calls (k:Nat) (a0 a1 a2 a3 r1:Int) (r2:Bool) (w:World) (h:bPz.f k a0 a1 a2 a3=some (r1,r2)):
  Calls prog 167 #[.int .i64 a0, .int .u32 a1, .int .i64 a2, .int .i64 a3] w fun e w'=>e= .returned (.tuple #[.int .i64 r1, .bool r2])/\Drawn0 w w':=by
 have H:=h;clear h;unfold bPz.f at H;obtain ⟨⟨b0,c0⟩,A5,H⟩:=ob_ H
 (try dsimp only at H)
 by_cases c6:c0=true
 rotate_left
 ·replace c6:=Zr c6;subst c6;rw [Yb (show¬(false=true) by decide)] at H;simp only [Zx,Zy] at H;obtain ⟨rfl,rfl⟩:=H;go_enter func167,ntmps167
  go_wp2_with (first|((with_reducible refine aaz (f:=146) rfl ?_);refine gl_ (some 16) func146 #[.int .i64 a0, .int .u32 a1, .int .i64 a3] ?_;(with_reducible refine (asz.calls k a0 a1 a3 b0 false _ A5.o).mono ?_);rintro e w' ⟨rfl,⟨nd,rfl⟩⟩;refine ⟨_,rfl,?_⟩))
  go_ret2;exact ⟨sd_,dn_⟩
 subst c6;rw [Ya rfl] at H;obtain ⟨e0,A7,H⟩:=ob_ H
 (try dsimp only at H)
 by_cases c8:e0=true
 ·subst c8;rw [Ya rfl] at H;obtain ⟨d0,A9,H⟩:=ob_ H
  (try dsimp only at H)
  simp only [Zx,Zy] at H;obtain ⟨rfl,rfl⟩:=H;go_enter func167,ntmps167
  go_wp2_with (first|((with_reducible refine aaz (f:=146) rfl ?_);refine gl_ (some 16) func146 #[.int .i64 a0, .int .u32 a1, .int .i64 a3] ?_;(with_reducible refine (asz.calls k a0 a1 a3 b0 true _ A5.o).mono ?_);rintro e w' ⟨rfl,⟨nd,rfl⟩⟩;refine ⟨_,rfl,?_⟩)|(go_at_call 106;(with_reducible refine (afz.calls k a0 a2 true _ A7.o).mono ?_);rintro e w' ⟨rfl,⟨nd,rfl⟩⟩)|((with_reducible refine aaz (f:=107) rfl ?_);refine gl_ (some 31) func107 #[.int .i64 a0, .int .u32 a1, .int .i64 a2, .int .i64 b0] ?_;(with_reducible refine (aBz.calls k a0 a1 a2 b0 d0 _ A9.o).mono ?_);rintro e w' ⟨rfl,⟨nd,rfl⟩⟩;refine ⟨_,rfl,?_⟩))
  go_ret2;exact ⟨sd_,dn_⟩
 ·replace c8:=Zr c8;subst c8;rw [Yb (show¬(false=true) by decide)] at H;simp only [Zx,Zy] at H;obtain ⟨rfl,rfl⟩:=H;go_enter func167,ntmps167
  go_wp2_with (first|((with_reducible refine aaz (f:=146) rfl ?_);refine gl_ (some 16) func146 #[.int .i64 a0, .int .u32 a1, .int .i64 a3] ?_;(with_reducible refine (asz.calls k a0 a1 a3 b0 true _ A5.o).mono ?_);rintro e w' ⟨rfl,⟨nd,rfl⟩⟩;refine ⟨_,rfl,?_⟩)|(go_at_call 106;(with_reducible refine (afz.calls k a0 a2 false _ A7.o).mono ?_);rintro e w' ⟨rfl,⟨nd,rfl⟩⟩))
  go_ret2;exact ⟨sd_,dn_⟩
def bez.f (k:Nat) (a0 a1 a2:Int) (a3:Int):Option (Int):=(bPz.f k a0 a1 a2 a3).bind fun bt254=>(some bt254.1)
theorem bez.mono: ∀a0 a1 a2 a3 k,LeO (bez.f k a0 a1 a2 a3) (bez.f (k+1) a0 a1 a2 a3):=by
 intro a0 a1 a2 a3 k;unfold bez.f
 repeat' with_reducible first|apply bPz.mono|apply Yg|apply Yh|apply Yi|refine Yj ?_ fun _=>?_
theorem bez.calls (k:Nat) (a0 a1 a2 a3 r:Int) (w:World) (h:bez.f k a0 a1 a2 a3=some r):
  Calls prog 128 #[.int .i64 a0, .int .u32 a1, .int .i64 a2, .int .i64 a3] w fun e w'=>e= .returned (.int .i64 r)/\Drawn0 w w':=by
 have H:=h;clear h;unfold bez.f at H;obtain ⟨⟨b0,c0⟩,A5,H⟩:=ob_ H
 (try dsimp only at H)
 obtain rfl:=Zn H;go_enter func128,ntmps128
 go_wp2_with (first|((with_reducible refine aaz (f:=167) rfl ?_);refine gl_ (some 16) func167 #[.int .i64 a0, .int .u32 a1, .int .i64 a2, .int .i64 a3] ?_;(with_reducible refine (bPz.calls k a0 a1 a2 a3 b0 c0 _ A5.o).mono ?_);rintro e w' ⟨rfl,⟨nd,rfl⟩⟩;refine ⟨_,rfl,?_⟩))
 go_ret;exact ⟨sd_,dn_⟩
end Go.Proofs.Xc
end
