-- Joined texts of this work (wip/tools/bundle.py).
import Derived.Test.YtpdakdcmahlghaaGreatBReconWhich9
set_option maxHeartbeats 8000000
set_option maxRecDepth 100000
set_option linter.unusedVariables false
set_option linter.unusedSimpArgs false
section
namespace Go.Proofs.Xc
open Go.RowKit Go.Proofs.Pw Go.Proofs.Pl Go.Proofs.Pm Tryz
attribute [local go_sem] a7z a8z bgz bhz aVz aWz a9z baz
mutual
def acz.l0:Nat->Int->Int->Int->Int->List (List Int)->List (List Int)->Int->Option ((List (List Int))×Bool)
 |0,_,_,_,_,_,_,_=>none
 |k+1,x0,x1,x2,x3,x14,x16,x17=>if x17<x3 then (acz.l1 k x0 x1 x2 x3 x14 x16 x17 ([] :List Int) 0) else (some (x16,true))
def acz.l1:Nat->Int->Int->Int->Int->List (List Int)->List (List Int)->Int->List Int->Int->Option ((List (List Int))×Bool)
 |0,_,_,_,_,_,_,_,_,_=>none
 |k+1,x0,x1,x2,x3,x14,x16,x17,x18,x19=>if x19<x2 then (if 0<=x17 then (if x17<(x14.length:Int) then (if 0<=x19 then (if x19<((rd_L4 x14 x17).length:Int) then (if 0<(x14.length:Int) then (if x19<((rd_L4 x14 0).length:Int) then ((bez.f k x0 x1 (rd (rd_L4 x14 x17) x19) (rd (rd_L4 x14 0) x19)).bind fun t282=>(if x18.length<17592186044416 then (acz.l1 k x0 x1 x2 x3 x14 x16 x17 (x18++ [t282]) (wrap64 (x19+1))) else (none))) else (none)) else (none)) else (none)) else (none)) else (none)) else (none)) else (acz.l2 k x0 x1 x2 x3 x14 x16 x17 x18 ([] :List Int) 0)
def acz.l2:Nat->Int->Int->Int->Int->List (List Int)->List (List Int)->Int->List Int->List Int->Int->Option ((List (List Int))×Bool)
 |0,_,_,_,_,_,_,_,_,_,_=>none
 |k+1,x0,x1,x2,x3,x14,x16,x17,x18,x20,x21=>if x21<x2 then (if 0<=x21 then (if x21<(x18.length:Int) then (if 0<(x18.length:Int) then ((bez.f k x0 x1 (rd x18 x21) (rd x18 0)).bind fun t288=>(if x20.length<17592186044416 then (acz.l2 k x0 x1 x2 x3 x14 x16 x17 x18 (x20++ [t288]) (wrap64 (x21+1))) else (none))) else (none)) else (none)) else (none)) else (if x16.length<5864062014805 then (acz.l0 k x0 x1 x2 x3 x14 (x16++ [x20]) (wrap64 (x17+1))) else (none))
end
def acz.f (k:Nat) (a0 a1 a2:Int) (a3:Int):Option ((List (List Int))×Bool):=(atz.f k a0 a1 a2 a3).bind fun bt256=>(if bt256.2=true then (if 0<=a2 then (if a2<=(bt256.1.length:Int) then ((ahz.f k a0 a1 (bt256.1.take (a2:Int).toNat)).bind fun bt265=>((akz.f k a0 a1 (bt256.1.drop (a2:Int).toNat) bt265.1).bind fun bt274=>(acz.l0 k a0 a1 a2 a3 bt274.1 ([] :List (List Int)) 0))) else (none)) else (none)) else (some (([] :List (List Int)),false)))
theorem acz.a6z: ∀k,(∀y0 y1 y2 y3 y4 y5 y6,LeO (acz.l0 k y0 y1 y2 y3 y4 y5 y6) (acz.l0 (k+1) y0 y1 y2 y3 y4 y5 y6))/\(∀y0 y1 y2 y3 y4 y5 y6 y7 y8,LeO (acz.l1 k y0 y1 y2 y3 y4 y5 y6 y7 y8) (acz.l1 (k+1) y0 y1 y2 y3 y4 y5 y6 y7 y8))/\(∀y0 y1 y2 y3 y4 y5 y6 y7 y8 y9,LeO (acz.l2 k y0 y1 y2 y3 y4 y5 y6 y7 y8 y9) (acz.l2 (k+1) y0 y1 y2 y3 y4 y5 y6 y7 y8 y9))
 |0=>⟨fun _ _ _ _ _ _ _ r h=>by simp [acz.l0] at h,fun _ _ _ _ _ _ _ _ _ r h=>by simp [acz.l1] at h,fun _ _ _ _ _ _ _ _ _ _ r h=>by simp [acz.l2] at h⟩
 |k+1=>by
  obtain ⟨a0,c0,b0⟩:=acz.a6z k;refine ⟨?_,?_,?_⟩
  ·intro y0 y1 y2 y3 y4 y5 y6;unfold acz.l0
   repeat' with_reducible first|apply a0|apply c0|apply b0|apply akz.mono|apply ahz.mono|apply atz.mono|apply bez.mono|apply Yg|apply Yh|apply Yi|refine Yj ?_ fun _=>?_
  ·intro y0 y1 y2 y3 y4 y5 y6 y7 y8;unfold acz.l1
   repeat' with_reducible first|apply a0|apply c0|apply b0|apply akz.mono|apply ahz.mono|apply atz.mono|apply bez.mono|apply Yg|apply Yh|apply Yi|refine Yj ?_ fun _=>?_
  ·intro y0 y1 y2 y3 y4 y5 y6 y7 y8 y9;unfold acz.l2
   repeat' with_reducible first|apply a0|apply c0|apply b0|apply akz.mono|apply ahz.mono|apply atz.mono|apply bez.mono|apply Yg|apply Yh|apply Yi|refine Yj ?_ fun _=>?_
theorem acz.mono: ∀a0 a1 a2 a3 k,LeO (acz.f k a0 a1 a2 a3) (acz.f (k+1) a0 a1 a2 a3):=by
 intro a0 a1 a2 a3 k;obtain ⟨b0,d0,c0⟩:=acz.a6z k;unfold acz.f
 repeat' with_reducible first|apply b0|apply d0|apply c0|apply akz.mono|apply ahz.mono|apply atz.mono|apply bez.mono|apply Yg|apply Yh|apply Yi|refine Yj ?_ fun _=>?_
def acz.T14:Bool×List (List Nat×List Nat):=(true, [([], []),([], []),([], []),([], []),([], []),([3,4], [3,4]),([5], [5]),([], []),([6,7], [6,7]),([8], [8]),([], []),([10], [10]),([11], [11]),([], []),([12,13], [12,13]),([14], [14]),([1,2,9,15], [1,2,9,15]),([16], [16]),([0,17,16], [0,17]),([18,18,0,1,2,3,4,5,6,7,8,9,10,11,12,13,14,15,16,17,18], [0,18])])
def acz.B14:List Nat:= [0,0,0,0,0,24,56,0,248,504,0,1024,3072,0,15360,31744,65534,131070,262143,524287]
theorem acz.tab14:rtab .any (opsOf Tryz.f83 14)=acz.T14:=by kernel_rfl
theorem acz.bits14:waitsOk acz.T14.2 acz.B14=true:=by kernel_rfl
def acz.T19:Bool×List (List Nat×List Nat):=(true, [([], []),([], []),([], []),([], []),([], []),([3,4], [3,4]),([5], [5]),([], []),([7], [7]),([8], [8]),([1,2,6,9], [1,2,6,9]),([10], [10]),([0,11,10], [0,11]),([12,12,0,1,2,3,4,5,6,7,8,9,10,11,12], [0,12])])
def acz.B19:List Nat:= [0,0,0,0,0,24,56,0,128,384,1022,2046,4095,8191]
theorem acz.tab19:rtab .any (opsOf Tryz.f83 19)=acz.T19:=by kernel_rfl
theorem acz.bits19:waitsOk acz.T19.2 acz.B19=true:=by kernel_rfl
theorem acz.calls (k:Nat) (a0 a1 a2 a3:Int) (r1:List (List Int)) (r2:Bool) (w:World) (h:acz.f k a0 a1 a2 a3=some (r1,r2)):
  Calls prog 83 #[.int .i64 a0, .int .u32 a1, .int .i64 a2, .int .i64 a3] w fun e w'=> ∃L3:Value,e= .returned (.tuple #[L3, .bool r2])/\Kd.N (Kd.slice 3 (Kd.int .i64)) 57 w' w.heap.size (fun k_=>(w.heap.size<=k_)) L3 r1/\Below w.heap.size w w':=by
 have HB:=Za (Zw w.heap.size w);have H:=h;clear h;unfold acz.f at H;obtain ⟨⟨j0,w3⟩,A5,H⟩:=ob_ H
 (try dsimp only at H)
 by_cases c6:w3=true
 rotate_left
 ·replace c6:=Zr c6;subst c6;rw [Yb (show¬(false=true) by decide)] at H;simp only [Zx,Zy] at H;obtain ⟨rfl,rfl⟩:=H;go_enter func83,ntmps83
  go_wp2_with (first|((with_reducible refine aaz (f:=126) rfl ?_);refine gl_ (some 27) func126 #[.int .i64 a0, .int .u32 a1, .int .i64 a2, .int .i64 a3] ?_;(with_reducible refine (atz.calls k a0 a1 a2 a3 j0 false _ A5.o).mono ?_);rintro e A4 ⟨i3,rfl,R0,hb⟩;refine ⟨_,rfl,?_⟩;have n_:=Zb (Za (Kd.bXz (Kd.b2z (ok':=fun k_=>(w.heap.size<=k_)) (Kd.S_N (Kd.bDz R0)) (fun k_ q1=>(Zt (adz bl_) q1.2.1))) (adz bl_))) (hs_ HB hb);clear HB;obtain ⟨i0,HB⟩:=n_;clear hb R0))
  go_ret2;exact ⟨_,er_,nl_,bl_⟩
 subst c6;rw [Ya rfl] at H;obtain ⟨c7,H⟩:=ig_ H;have l3:=Zz c7;have q3:=Zd c7;clear c7;obtain ⟨c8,H⟩:=ig_ H;have h3:=Zz c8;have Y2:=Zd c8;clear c8;obtain ⟨g1,Z0⟩: ∃y_:List (List Int),y_=(j0.take (a2:Int).toNat):=⟨_,rfl⟩
 first|rw [Zl, <-Z0] at H|rw [<-Z0] at H
 (try dsimp only at H)
 have J1:=Za Z0;clear Z0;obtain ⟨⟨s1,B3⟩,A9,H⟩:=ob_ H
 (try dsimp only at H)
 have N2:=Zz (Zc as_:0<=a2);have s2:=Zz (Zc as_:a2<=(j0.length:Int));obtain ⟨O0,W0⟩: ∃y_:List (List Int),y_=(j0.drop (a2:Int).toNat):=⟨_,rfl⟩
 first|rw [Zl, <-W0] at H|rw [<-W0] at H
 (try dsimp only at H)
 have H1:=Za W0;clear W0;obtain ⟨⟨g0,j3⟩,g4,H⟩:=ob_ H
 (try dsimp only at H)
 have H':=Za H;clear H;go_enter func83,ntmps83
 go_wp2_with (first|((with_reducible refine aaz (f:=126) rfl ?_);refine gl_ (some 27) func126 #[.int .i64 a0, .int .u32 a1, .int .i64 a2, .int .i64 a3] ?_;(with_reducible refine (atz.calls k a0 a1 a2 a3 j0 true _ A5.o).mono ?_);rintro e B4 ⟨i3,rfl,R0,hb⟩;refine ⟨_,rfl,?_⟩;have n_:=Zb (Za (Kd.bXz (Kd.b2z (ok':=fun k_=>(w.heap.size<=k_)) (Kd.S_N (Kd.bDz R0)) (fun k_ q1=>(Zt (adz bl_) q1.2.1))) (adz bl_))) (hs_ HB hb);clear HB;obtain ⟨i0,HB⟩:=n_;clear hb R0;obtain ⟨F0,u0,p3⟩:=Kd.czz i0.o;subst p3;have X2:(a2:Int)<=((j0.length:Int):Int):=Zc as_;obtain ⟨v4,G1,_,I2,_⟩:=info_parts info57;have f1:j0.length<=u0:=(Kd.bpz i0.o).2.1;have v2:Kd.F (Kd.slice 3 (Kd.int .i64)) _ _ F0 j0.length j0:=(Kd.V_at (base:=w.heap.size) (Kd.N_V i0.o)).2.2;have T1:=cut_to (P:=prog) 68 57 .i64 underlying68 G1 F0 j0.length u0 a2 (Zc as_) X2 f1;have Q1:=Kd.F_take (m:=(a2:Int).toNat) v2 (by omega);have R1:g1.length=(a2:Int).toNat:=(by rw [J1.o,List.length_take];omega);rw [<-J1.o] at Q1;rw [<-R1] at T1;have t0:=Za (show Kd.V (Kd.slice 3 (Kd.int .i64)) 57 _ w.heap.size _ (.slice F0 g1.length u0) g1 from Kd.V_mk (by omega) Q1);have J3:=Za (show g1.length<=u0 from by omega);clear Q1 v2 f1 G1 I2;have q4:=Za R1;clear R1;replace X2:=Zz X2)|((with_reducible refine aaz (f:=64) rfl ?_);refine gl_ (some 38) func64 #[.int .i64 a0, .int .u32 a1, .slice F0 g1.length u0] ?_;(with_reducible refine (ahz.calls k a0 a1 _ _ g1 s1 B3 _ (xd_ (Kd.dcz t0.o).2.2) ((Kd.dcz t0.o).2.1) A9.o).mono ?_);rintro e C4 ⟨n4,rfl,R0,hb⟩;refine ⟨_,rfl,?_⟩;have n_:=Zb (Za (Kd.bYz (xd_ i0.o) (Kd.dfz R0) hb)) (Zb (Za (Kd.dOz (xd_ t0.o) (Kd.dfz R0) hb)) (Zb (Za (Kd.bXz (Kd.b2z (ok':=fun k_=>(w.heap.size<=k_)/\some k_≠(.slice F0 j0.length u0:Value).ownBlock) R0 (fun k_ q1=>⟨(Zt (adz bl_) q1),(Kd.fresh' (Kd.N_lt (xd_ i0.o)) k_ q1)⟩)) (adz bl_))) (hs_ HB hb)));clear i0 t0 HB;obtain ⟨i0,t0,D0,HB⟩:=n_;clear hb R0;have T2:(a2:Int)<=((j0.length:Int):Int):=Zc as_;obtain ⟨u4,F1,_,K1,_⟩:=info_parts info57;have v0:j0.length<=u0:=(Kd.bpz i0.o).2.1;have E2:Kd.F (Kd.slice 3 (Kd.int .i64)) _ _ F0 j0.length j0:=(Kd.V_at (base:=w.heap.size) (Kd.N_V i0.o)).2.2;have n2:(0:Int)<=(a2:Int):=Zc as_;have Z1:=cut_from (P:=prog) 68 57 .i64 underlying68 F1 1 K1 F0 j0.length u0 a2 n2 T2;have m1:=Kd.F_cut (m:=(a2:Int).toNat) (c:=u0) E2 (by omega) v0;obtain ⟨d3,C1⟩: ∃f4,f4=(if u0=(a2:Int).toNat then F0 else (F0:Option Addr).map (·.add ((a2:Int).toNat*1))):=⟨_,rfl⟩;obtain ⟨y3,z1⟩: ∃o4,o4=u0 - (a2:Int).toNat:=⟨_,rfl⟩;have j1:O0.length=j0.length - (a2:Int).toNat:=(by rw [H1.o,List.length_drop] <;>omega);rw [show (j0).drop (a2:Int).toNat=O0 from H1.o.symm] at m1;replace m1:Kd.F (Kd.slice 3 (Kd.int .i64)) _ _ d3 O0.length O0:=(by rw [C1];exact m1);rw [<-j1, <-C1, <-z1] at Z1;have Q0:=Za (show Kd.V (Kd.slice 3 (Kd.int .i64)) 57 _ w.heap.size _ (.slice d3 O0.length y3) O0 from Kd.V_mk (by rw [j1,z1];exact Nat.sub_le_sub_right v0 _) m1);have P3:=Za (show O0.length<=y3 from by rw [j1,z1];exact Nat.sub_le_sub_right v0 _);clear m1 E2 v0 F1 K1 z1;have w4:=Za j1;have i4:=Za C1;clear j1 C1;replace T2:=Zz T2;obtain ⟨L2,o2,z3⟩:=Kd.czz D0.o;subst z3)|((with_reducible refine aaz (f:=127) rfl ?_);refine gl_ (some 48) func127 #[.int .i64 a0, .int .u32 a1, .slice d3 O0.length y3, .slice L2 s1.length o2] ?_;(with_reducible refine (akz.calls k a0 a1 _ _ O0 _ _ s1 g0 j3 _ (xd_ (Kd.dcz Q0.o).2.2) ((Kd.dcz Q0.o).2.1) (xd_ (Kd.bpz D0.o).2.2) ((Kd.bpz D0.o).2.1) g4.o).mono ?_);rintro e E4 ⟨E0,rfl,R0,hb⟩;refine ⟨_,rfl,?_⟩;have n_:=Zb (Za (Kd.bYz (xd_ i0.o) (Kd.dez R0) hb)) (Zb (Za (Kd.dOz (xd_ t0.o) (Kd.dez R0) hb)) (Zb (Za (Kd.bYz (xd_ D0.o) (Kd.dez R0) hb)) (Zb (Za (Kd.dOz (xd_ Q0.o) (Kd.dez R0) hb)) (Zb (Za (Kd.bXz (Kd.b2z (ok':=fun k_=>(w.heap.size<=k_)/\some k_≠(.slice F0 j0.length u0:Value).ownBlock/\some k_≠(.slice L2 s1.length o2:Value).ownBlock) (Kd.S_N (Kd.bDz R0)) (fun k_ q1=>⟨(Zt (adz bl_) q1.2.1),(Kd.fresh' (Kd.N_lt (xd_ i0.o)) k_ q1.2.1),(Kd.fresh' (Kd.N_lt (xd_ D0.o)) k_ q1.2.1)⟩)) (adz bl_))) (hs_ HB hb)))));clear i0 t0 D0 Q0 HB;obtain ⟨i0,t0,D0,Q0,m2,HB⟩:=n_;clear hb R0))
 go_loopg [16,17] k (fun kq U3 r4 w'=> ∃(r0:List (List Int)) (f0:Int),r4= .int .i64 f0/\Aside0 (acz.l0 kq a0 a1 a2 a3 g0 r0 f0=some (r1,r2))/\Aside0 (kq<=k)/\Aside0 (Kd.N (Kd.slice 3 (Kd.int .i64)) 57 w' w.heap.size (fun k_=>(w.heap.size<=k_)/\some k_≠(U3:Value).ownBlock) E0 g0)/\Aside0 (Kd.N (Kd.slice 3 (Kd.int .i64)) 57 w' w.heap.size (fun k_=>(w.heap.size<=k_)/\some k_≠(E0:Value).ownBlock) U3 r0)/\Aside0 (Below w.heap.size w w'))
 case atStart=>exact ⟨(([] :List (List Int))),(0),sd_,H',⟨Zv _⟩,⟨nm_ m2⟩,⟨nl_⟩,⟨bl_⟩⟩
 clear H';clear l3 q3 h3 Y2 N2 s2 X2 T2 n2;obtain ⟨r0,f0,rfl,HA,i2,b0,c0,HB⟩:=hrel;rcases gk with _|k1
 ·exact Yf HA.o (by simp [acz.l0])
 have H:=HA.o;clear HA;simp only [acz.l0] at H;by_cases e2:f0<a3
 rotate_left
 ·rw [Yb e2] at H;have I1:=Ze e2;clear e2;simp only [Zx,Zy] at H;obtain ⟨rfl,rfl⟩:=H;go_wp2;go_ret2;exact ⟨_,er_,nm_ c0,bl_⟩
 rw [Ya e2] at H;have I1:=Zd e2;clear e2;have H':=Za H;clear H;go_wp2
 go_loopg [18,19] k1 (fun kq t3 Z3 w'=> ∃(e0:List Int) (h0:Int),Z3= .int .i64 h0/\Aside0 (acz.l1 kq a0 a1 a2 a3 g0 r0 f0 e0 h0=some (r1,r2))/\Aside0 (kq<=k1)/\Aside0 (Kd.N (Kd.slice 3 (Kd.int .i64)) 57 w' w.heap.size (fun k_=>(w.heap.size<=k_)/\some k_≠(u16:Value).ownBlock/\some k_≠(t3:Value).ownBlock) E0 g0)/\Aside0 (Kd.N (Kd.slice 3 (Kd.int .i64)) 57 w' w.heap.size (fun k_=>(w.heap.size<=k_)/\some k_≠(E0:Value).ownBlock/\some k_≠(t3:Value).ownBlock) u16 r0)/\Aside0 (Kd.R (Kd.int .i64) 3 w' w.heap.size (fun k_=>(w.heap.size<=k_)) t3 e0)/\Aside0 (Below w.heap.size w w'))
 case atStart=>exact ⟨(([] :List Int)),(0),sd_,H',⟨Zv _⟩,⟨nm_ b0⟩,⟨nm_ c0⟩,⟨nl_⟩,⟨bl_⟩⟩
 clear H';clear I1;obtain ⟨e0,h0,rfl,HA,g2,b0,c0,d0,HB⟩:=hrel;rcases gk with _|k2
 ·exact Yf HA.o (by simp [acz.l1])
 have H:=HA.o;clear HA;simp only [acz.l1] at H;by_cases f2:h0<a2
 rotate_left
 ·rw [Yb f2] at H;have D1:=Ze f2;clear f2;have H':=Za H;clear H;go_wp2
  go_loopg [20,21] k2 (fun kq P2 e4 w'=> ∃(p0:List Int) (n0:Int),e4= .int .i64 n0/\Aside0 (acz.l2 kq a0 a1 a2 a3 g0 r0 f0 e0 p0 n0=some (r1,r2))/\Aside0 (kq<=k2)/\Aside0 (Kd.N (Kd.slice 3 (Kd.int .i64)) 57 w' w.heap.size (fun k_=>(w.heap.size<=k_)/\some k_≠(u16:Value).ownBlock/\some k_≠(u18:Value).ownBlock/\some k_≠(P2:Value).ownBlock) E0 g0)/\Aside0 (Kd.N (Kd.slice 3 (Kd.int .i64)) 57 w' w.heap.size (fun k_=>(w.heap.size<=k_)/\some k_≠(E0:Value).ownBlock/\some k_≠(u18:Value).ownBlock/\some k_≠(P2:Value).ownBlock) u16 r0)/\Aside0 (Kd.R (Kd.int .i64) 3 w' w.heap.size (fun k_=>(w.heap.size<=k_)/\some k_≠(P2:Value).ownBlock) u18 e0)/\Aside0 (Kd.R (Kd.int .i64) 3 w' w.heap.size (fun k_=>(w.heap.size<=k_)/\some k_≠(u18:Value).ownBlock) P2 p0)/\Aside0 (Below w.heap.size w w'))
  case atStart=>exact ⟨(([] :List Int)),(0),sd_,H',⟨Zv _⟩,⟨nm_ b0⟩,⟨nm_ c0⟩,⟨rm_ d0⟩,⟨nl_⟩,⟨bl_⟩⟩
  clear H';clear D1;obtain ⟨p0,n0,rfl,HA,U2,b0,c0,d0,o0,HB⟩:=hrel;rcases gk with _|k3
  ·exact Yf HA.o (by simp [acz.l2])
  have H:=HA.o;clear HA;simp only [acz.l2] at H;by_cases d2:n0<a2
  rotate_left
  ·rw [Yb d2] at H;have J2:=Ze d2;clear d2;obtain ⟨u2,H⟩:=ij_ H;obtain ⟨v3,X0⟩: ∃y_:List (List Int),y_=(r0++ [p0]):=⟨_,rfl⟩
   first|rw [Zl, <-X0] at H|rw [<-X0] at H
   (try dsimp only at H)
   have M2:=Za X0;clear X0;have H':=Za H;clear H;obtain ⟨B2,q2,A3⟩:=Kd.aQz o0.o;subst A3
   go_wp2_with (first|((with_reducible refine amz (b:= .append) (xs:= #[.tmp 98, .tmp 100]) rfl ?_);at_builtin;refine Kd.N_append (Kd.slice 3 (Kd.int .i64)) (w0:=w) w.heap.size rfl (.tmp 98) (.tmp 100) 68 57 (.slice none 0 0) 24 rfl underlying68 info57 rfl (by decide) (by omega) u16 r0 p0 [.slice B2 p0.length q2] (fun k_=>(w.heap.size<=k_)/\some k_≠(E0:Value).ownBlock/\some k_≠(u18:Value).ownBlock) (fun k_=>((fun k_=>(w.heap.size<=k_)/\some k_≠(E0:Value).ownBlock/\some k_≠(u18:Value).ownBlock)) k_/\some k_≠(u16:Value).ownBlock) rfl rfl (Kd.ebz (Kd.aHz (Kd.aKz (ok':=(fun k_=>((fun k_=>(w.heap.size<=k_)/\some k_≠(E0:Value).ownBlock/\some k_≠(u18:Value).ownBlock)) k_/\some k_≠(u16:Value).ownBlock)) (Kd.bqz (Kd.bqz (o0.o) (Kd.dyz b0.o) (by decide)) (Kd.dyz c0.o) (by decide)) (fun k_ hk=>⟨⟨hk.1.1.1,⟨hk.1.2,hk.1.1.2⟩⟩,hk.2⟩))).2.1 (Kd.R_F (Kd.aKz (ok':=(fun k_=>((fun k_=>(w.heap.size<=k_)/\some k_≠(E0:Value).ownBlock/\some k_≠(u18:Value).ownBlock)) k_/\some k_≠(u16:Value).ownBlock)) (Kd.bqz (Kd.bqz (o0.o) (Kd.dyz b0.o) (by decide)) (Kd.dyz c0.o) (by decide)) (fun k_ hk=>⟨⟨hk.1.1.1,⟨hk.1.2,hk.1.1.2⟩⟩,hk.2⟩)))) (fun _ hk=>hk) (fun k_ hk=>⟨(Zt (adz bl_) hk),Kd.fresh' (Kd.N_lt (xd_ b0.o)) k_ hk,Kd.fresh' (Kd.R_lt (xd_ d0.o)) k_ hk⟩) (nm_ c0) bl_ (adz bl_) (by have:=u2.o;omega) ?_;intro b4 z4 ho hb hg hat;rw [<-M2.o] at ho;have n_:=Zb (Za (Kd.crz (ok:=(fun k_=>(w.heap.size<=k_)/\some k_≠(u18:Value).ownBlock/\some k_≠(.slice B2 p0.length q2:Value).ownBlock)) (nm_ b0) hg hat)) (Zb (Za (Kd.R_over' (xd_ d0.o) (Kd.dyz (xd_ c0.o)) (by decide) hg)) (Zb (Za (hb)) (Za (ho))));clear b0 d0 HB c0 o0;obtain ⟨b0,d0,HB,G2⟩:=n_;clear ho hb hg hat))
   go_roundg k3
   case measure=>have:=i2.o;have:=g2.o;have:=U2.o;omega
   case rel=>exact ⟨(v3),(wrap64 (f0+1)),sd_,H',⟨by have:=i2.o;have:=g2.o;have:=U2.o;omega⟩,⟨nm_ b0⟩,⟨nm_ G2⟩,⟨bl_⟩⟩
  rw [Ya d2] at H;have J2:=Zd d2;clear d2;obtain ⟨Q3,H⟩:=ih_ H;obtain ⟨G3,H⟩:=ih_ H;obtain ⟨I3,H⟩:=ig_ H;have H3:=Zd I3;have S3:decide (0<e0.length)=true:=Zd (by omega);clear I3;obtain ⟨B1,c4,H⟩:=ob_ H
  (try dsimp only at H)
  obtain ⟨C2,H⟩:=ij_ H;obtain ⟨n3,Y0⟩: ∃y_:List Int,y_=(p0++ [B1]):=⟨_,rfl⟩
  first|rw [Zl, <-Y0] at H|rw [<-Y0] at H
  (try dsimp only at H)
  have D2:=Za Y0;clear Y0;have H':=Za H;clear H
  try go_wp2
  have n_:=Zb (Za (Kd.N_drew b0.o)) (Zb (Za (Kd.N_drew c0.o)) (Zb (Za (Kd.cBz d0.o)) (Zb (Za (Kd.cBz o0.o)) (Za (b1z HB.o)))));clear b0 c0 d0 o0 HB;obtain ⟨b0,c0,d0,o0,HB⟩:=n_;obtain ⟨d4,O1,j2⟩:=Kd.aQz d0.o
  (first|subst j2|(injection j2 with H2 m3 t2;have o3:=H2.symm;have b3:=t2.symm;clear H2 m3 t2;subst o3;subst b3))
  obtain ⟨H0,r3,T0,a4,p4⟩:=ix_ (Kd.aHz d0.o).2.2 n0 as_ as_;cases r3
  have W1:0<=(0:Int):=(by omega);have S1:0<(e0.length:Int):=Zc as_;obtain ⟨F2,f3,z0⟩:=Kd.ehz (Kd.aHz d0.o).2.2 0 W1 S1;obtain rfl:H0=F2:=(by injection f3);have F3:(0<e0.length)=True:=Zz (by omega)
  (try rw [show ((0:Int)).toNat=0 from rfl] at z0)
  (try rw [Addr.add_zero'] at z0)
  replace W1:=Zz W1;replace S1:=Zz S1;refine ccz (n:=14) (S:=fun w'=>w'.cell? (H0.add (n0).toNat)=some (.int .i64 (rd e0 n0))/\w'.cell? H0=some (.int .i64 (rd e0 0))) (ds:= [11,12]) (bA 14 0) kr_ rfl rfl ⟨T0,z0⟩ (fun hHeld=> ?_);refine c9z acz.tab19 acz.bits19 (fun k0 N1=> ?_);generalize wr.drew=w39 at b0 c0 d0 o0 HB T0 z0 hHeld|-;refine pv_ 0 85 1 k0 ?_;refine pv_ 1 86 3 k0 ?_;refine pv_ 2 87 7 k0 ?_;refine pv_ 3 88 15 k0 ?_;refine pv_ 4 89 31 k0 ?_;refine pv_ 5 90 63 k0 ?_;refine pv_ 7 92 191 k0 ?_;refine pv_ 8 93 447 k0 ?_;refine tw_ 6 91 511 k0 N1 hHeld ?_;refine tw_ 9 94 1023 k0 N1 hHeld ?_;refine one_ (i:=10) (N:=some 95) (bA 14 2047) rfl rfl (dgz k0.o kr_) (by decide) (fun K hK=> ?_);refine goes_ func128 kr_ rfl #[.int .i64 a0, .int .u32 a1, .int .i64 (rd e0 n0), .int .i64 (rd e0 0)] (by rfl) rfl rfl ar_ ?_
  with_reducible refine (bez.calls k3 a0 a1 (rd e0 n0) (rd e0 0) B1 _ c4.o).mono ?_
  rintro e w' ⟨rfl,⟨nd,rfl⟩⟩;refine ⟨_,rfl,?_⟩;refine hK.out _ _ ⟨hHeld.1,hHeld.2⟩ (fun hHeld=> ?_);clear hK K;refine norm_ (a':= ?_) ?_ ?_;rotate_left
  ·show Act.put _ (some 95) _=_;simp only [Act.put,Zg,Zh,Zi,i64_w,i32_w];rfl
  refine last_ (i:=11) (N:=some 96) (bA 14 4095) rfl rfl (dgz k0.o kr_) (by decide) (fun K hK=> ?_);refine chz (w1:= ?_) (v:= ?_) (by rfl) rfl ?_ ?_;rotate_left 2
  ·go_simp;constructor
   ·rfl
   ·rfl
  refine hK.out _ _ ?_;clear hK K;refine norm_ (a':= ?_) ?_ ?_;rotate_left
  ·show Act.put _ (some 96) _=_;simp only [Act.put,Zg,Zh,Zi,i64_w,i32_w];rfl
  refine last_ (i:=12) (N:=some 97) (bA 14 8191) rfl rfl (dgz k0.o kr_) (by decide) (fun K hK=> ?_);refine Kd.dIz (Kd.int .i64) (w0:=w) w.heap.size (by rfl) (.tmp 85) (.tmp 96) 57 3 (.int .i64 0) 8 rfl underlying57 info3 rfl (by decide) (by omega) u20 p0 B1 [.int .i64 B1] (fun k_=>(w.heap.size<=k_)/\some k_≠(.slice (some H0) e0.length O1:Value).ownBlock) (fun _=>False) rfl rfl ?aP (fun _ hk=>hk.elim) ?aF ?aO ?aB ?aS ?aL ?_
  (case aP=>exact rfl)
  (case aB=>exact bl_)
  (case aF=>exact (fun k_ hk=>⟨(Zt (adz bl_) hk),Kd.fresh' (Kd.R_lt (xd_ d0.o)) k_ hk⟩))
  (case aO=>exact (xd_ o0.o))
  (case aS=>exact (adz bl_))
  (case aL=>have:=C2.o;omega)
  intro m4 y4 ho hb hg hat;rw [<-D2.o] at ho;have n_:=Zb (Za (Kd.crz (ok:=(fun k_=>(w.heap.size<=k_)/\some k_≠(u16:Value).ownBlock/\some k_≠(.slice (some H0) e0.length O1:Value).ownBlock)) (nm_ b0) hg hat)) (Zb (Za (Kd.crz (ok:=(fun k_=>(w.heap.size<=k_)/\some k_≠(E0:Value).ownBlock/\some k_≠(.slice (some H0) e0.length O1:Value).ownBlock)) (nm_ c0) hg hat)) (Zb (Za (Kd.d5z (ok:=(fun k_=>(w.heap.size<=k_))) (xd_ d0.o) hg hat)) (Zb (Za (hb)) (Za (ho)))));clear b0 c0 d0 HB o0;obtain ⟨b0,c0,d0,HB,w2⟩:=n_;clear ho hb hg hat;refine hK.out _ _ ?_;clear hK K;refine norm_ (a':= ?_) ?_ ?_;rotate_left
  ·show Act.put _ (some 97) _=_;simp only [Act.put,Zg,Zh,Zi,i64_w,i32_w];rfl
  refine pv_ 13 20 16383 k0 ?_;refine done_ (dWz k0.o kr_) ?_
  try go_wp2
  go_roundg k3
  case measure=>have:=i2.o;have:=g2.o;have:=U2.o;omega
  case rel=>exact ⟨(n3),(wrap64 (n0+1)),sd_,H',⟨by have:=i2.o;have:=g2.o;have:=U2.o;omega⟩,⟨nm_ b0⟩,⟨nm_ c0⟩,⟨xd_ d0.o⟩,⟨xd_ w2.o⟩,⟨bl_⟩⟩
 rw [Ya f2] at H;have D1:=Zd f2;clear f2;obtain ⟨M3,H⟩:=ih_ H;obtain ⟨V3,H⟩:=ih_ H;obtain ⟨K3,H⟩:=ih_ H;obtain ⟨O3,H⟩:=ih_ H;obtain ⟨E3,H⟩:=ig_ H;have N3:=Zd E3;have R3:decide (0<g0.length)=true:=Zd (by omega);clear E3;obtain ⟨D3,H⟩:=ih_ H;obtain ⟨v1,l4,H⟩:=ob_ H
 (try dsimp only at H)
 obtain ⟨y2,H⟩:=ij_ H;obtain ⟨C3,S0⟩: ∃y_:List Int,y_=(e0++ [v1]):=⟨_,rfl⟩
 first|rw [Zl, <-S0] at H|rw [<-S0] at H
 (try dsimp only at H)
 have K2:=Za S0;clear S0;have H':=Za H;clear H
 try go_wp2
 have n_:=Zb (Za (Kd.N_drew b0.o)) (Zb (Za (Kd.N_drew c0.o)) (Zb (Za (Kd.cBz d0.o)) (Za (b1z HB.o))));clear b0 c0 d0 HB;obtain ⟨b0,c0,d0,HB⟩:=n_;obtain ⟨s4,P1,A2⟩:=Kd.czz b0.o
 (first|subst A2|(injection A2 with H2 m3 t2;have o3:=H2.symm;have b3:=t2.symm;clear H2 m3 t2;subst o3;subst b3))
 have t1:0<=(f0:Int):=Zc as_;have u1:f0<(g0.length:Int):=Zc as_;obtain ⟨G0,e3,c2,c3,P0,U0,c1⟩:=at_L4 (Kd.bpz b0.o).2.2 f0 t1 u1;cases c3
 obtain ⟨T3,b2,U1,p1⟩:=Kd.N_get b0.o [] f0 t1 (by first|exact u1|exact Zc as_|(have e_:=(Kd.bpz b0.o).1;omega));obtain ⟨R2,V2,rfl,N0,I0⟩:=Kd.cNz U1;have B0:=p1 0 _ rfl;rw [Nat.add_zero,show ((Kd.slice 3 (Kd.int .i64))).sz=1 from rfl,Nat.mul_one] at B0;replace B0:=Zn (B0.symm.trans P0);injection B0 with n1 X1 i1
 rw [n1] at I0;rw [i1] at N0;have A0:=Za (show Kd.V (Kd.int .i64) 3 _ w.heap.size _ _ (rd_L4 g0 f0) from Kd.V_mk N0 I0);clear n1 X1 i1 I0 N0;clear p1 b2;have K0:=Za c1;have W2:=Za U0;clear c1 U0;replace t1:=Zz t1;replace u1:=Zz u1;obtain ⟨L1,g3,d1,j4,Y3⟩:=ix_ (by repeat (first|(with_reducible exact K0.o)|(with_reducible refine Kd.cez ?_ _)|(with_reducible refine Kd.bEz ?_ _)|(with_reducible refine Kd.cpz ?_)|exact K0.o)) h0 as_ as_;cases g3
 have y1:0<=(0:Int):=(by omega);have A1:0<(g0.length:Int):=Zc as_;obtain ⟨p2,s3,Y1,Z2,q0,e1,b1⟩:=at_L4 (Kd.bpz b0.o).2.2 0 y1 A1;obtain rfl:G0=p2:=(by injection Z2);obtain ⟨X3,M1,V1,o1⟩:=Kd.N_get b0.o [] 0 y1 (by first|exact A1|exact Zc as_|(have e_:=(Kd.bpz b0.o).1;omega));obtain ⟨O2,Q2,rfl,L0,M0⟩:=Kd.cNz V1;have C0:=o1 0 _ rfl;rw [Nat.add_zero,show ((Kd.slice 3 (Kd.int .i64))).sz=1 from rfl,Nat.mul_one] at C0;replace C0:=Zn (C0.symm.trans q0);injection C0 with n1 X1 i1
 rw [n1] at M0;rw [i1] at L0;have y0:=Za (show Kd.V (Kd.int .i64) 3 _ w.heap.size _ _ (rd_L4 g0 0) from Kd.V_mk L0 M0);clear n1 X1 i1 M0 L0;clear o1 M1;have W3:(0<g0.length)=True:=Zz (by omega)
 (try rw [show ((0:Int)).toNat=0 from rfl] at q0)
 (try rw [Addr.add_zero'] at q0)
 have J0:=Za b1;have S2:=Za e1;clear b1 e1;replace y1:=Zz y1;replace A1:=Zz A1;obtain ⟨E1,u3,V0,h4,k4⟩:=ix_ (by repeat (first|(with_reducible exact J0.o)|(with_reducible refine Kd.cez ?_ _)|(with_reducible refine Kd.bEz ?_ _)|(with_reducible refine Kd.cpz ?_)|exact J0.o)) h0 as_ as_;cases u3
 refine ccz (n:=20) (S:=fun w'=>w'.cell? (G0.add (f0).toNat)=some (.slice (some L1) (rd_L4 g0 f0).length c2)/\w'.cell? (L1.add (h0).toNat)=some (.int .i64 (rd (rd_L4 g0 f0) h0))/\w'.cell? G0=some (.slice (some E1) (rd_L4 g0 0).length Y1)/\w'.cell? (E1.add (h0).toNat)=some (.int .i64 (rd (rd_L4 g0 0) h0))) (ds:= [17,18]) (bA 20 0) kr_ rfl rfl ⟨P0,d1,q0,V0⟩ (fun hHeld=> ?_);refine c9z acz.tab14 acz.bits14 (fun k0 N1=> ?_);generalize wr.drew=w30 at b0 c0 d0 HB A0 y0 K0 J0 P0 d1 q0 V0 hHeld|-;refine pv_ 0 61 1 k0 ?_;refine pv_ 1 62 3 k0 ?_;refine pv_ 2 63 7 k0 ?_;refine pv_ 3 64 15 k0 ?_;refine pv_ 4 65 31 k0 ?_;refine pv_ 5 66 63 k0 ?_;refine pv_ 7 68 191 k0 ?_;refine pv_ 10 71 1215 k0 ?_;refine pv_ 11 72 3263 k0 ?_;refine pv_ 13 74 11455 k0 ?_;refine tw_ 6 67 11519 k0 N1 hHeld ?_
 refine pv_ 8 69 11775 k0 ?_;refine tw_ 9 70 12287 k0 N1 hHeld ?_;refine tw_ 12 73 16383 k0 N1 hHeld ?_;refine pv_ 14 75 32767 k0 ?_;refine tw_ 15 76 65535 k0 N1 hHeld ?_;refine one_ (i:=16) (N:=some 77) (bA 20 131071) rfl rfl (dgz k0.o kr_) (by decide) (fun K hK=> ?_);refine goes_ func128 kr_ rfl #[.int .i64 a0, .int .u32 a1, .int .i64 (rd (rd_L4 g0 f0) h0), .int .i64 (rd (rd_L4 g0 0) h0)] (by rfl) rfl rfl ar_ ?_
 with_reducible refine (bez.calls k2 a0 a1 (rd (rd_L4 g0 f0) h0) (rd (rd_L4 g0 0) h0) v1 _ l4.o).mono ?_
 rintro e w' ⟨rfl,⟨nd,rfl⟩⟩;refine ⟨_,rfl,?_⟩;refine hK.out _ _ ⟨hHeld.1,hHeld.2.1,hHeld.2.2.1,hHeld.2.2.2⟩ (fun hHeld=> ?_);clear hK K;refine norm_ (a':= ?_) ?_ ?_;rotate_left
 ·show Act.put _ (some 77) _=_;simp only [Act.put,Zg,Zh,Zi,i64_w,i32_w];rfl
 refine last_ (i:=17) (N:=some 78) (bA 20 262143) rfl rfl (dgz k0.o kr_) (by decide) (fun K hK=> ?_);refine chz (w1:= ?_) (v:= ?_) (by rfl) rfl ?_ ?_;rotate_left 2
 ·go_simp;constructor
  ·rfl
  ·rfl
 refine hK.out _ _ ?_;clear hK K;refine norm_ (a':= ?_) ?_ ?_;rotate_left
 ·show Act.put _ (some 78) _=_;simp only [Act.put,Zg,Zh,Zi,i64_w,i32_w];rfl
 refine last_ (i:=18) (N:=some 79) (bA 20 524287) rfl rfl (dgz k0.o kr_) (by decide) (fun K hK=> ?_);refine Kd.dIz (Kd.int .i64) (w0:=w) w.heap.size (by rfl) (.tmp 61) (.tmp 78) 57 3 (.int .i64 0) 8 rfl underlying57 info3 rfl (by decide) (by omega) u18 e0 v1 [.int .i64 v1] (fun k_=>(w.heap.size<=k_)) (fun _=>False) rfl rfl ?aP (fun _ hk=>hk.elim) ?aF ?aO ?aB ?aS ?aL ?_
 (case aP=>exact rfl)
 (case aB=>exact bl_)
 (case aF=>exact (fun k_ hk=>(Zt (adz bl_) hk)))
 (case aO=>exact (xd_ d0.o))
 (case aS=>exact (adz bl_))
 (case aL=>have:=y2.o;omega)
 intro t4 D4 ho hb hg hat;rw [<-K2.o] at ho;have n_:=Zb (Za (Kd.crz (ok:=(fun k_=>(w.heap.size<=k_)/\some k_≠(u16:Value).ownBlock)) (nm_ b0) hg hat)) (Zb (Za (Kd.crz (ok:=(fun k_=>(w.heap.size<=k_)/\some k_≠(.slice (some G0) g0.length P1:Value).ownBlock)) (nm_ c0) hg hat)) (Zb (Za (Kd.drz (ok:=(fun k_=>(w.heap.size<=k_)/\some k_≠(.slice (some G0) g0.length P1:Value).ownBlock/\some k_≠(u16:Value).ownBlock)) (by (with_reducible repeat (first|apply Kd.dzz|apply Kd.dAz|apply Kd.dGz));exact Kd.dFz A0.o (fun _ hk=>⟨⟨hk.1.1,⟨hk.2,hk.1.2.1⟩⟩,hk.1.2.2⟩)) hg hat)) (Zb (Za (Kd.drz (ok:=(fun k_=>(w.heap.size<=k_)/\some k_≠(.slice (some G0) g0.length P1:Value).ownBlock/\some k_≠(u16:Value).ownBlock)) (by (with_reducible repeat (first|apply Kd.dzz|apply Kd.dAz|apply Kd.dGz));exact Kd.dFz y0.o (fun _ hk=>⟨⟨hk.1.1,⟨hk.2,hk.1.2.1⟩⟩,hk.1.2.2⟩)) hg hat)) (Zb (Za (hb)) (Za (ho))))))
 clear b0 c0 A0 y0 HB d0;obtain ⟨b0,c0,A0,y0,HB,z2⟩:=n_;clear ho hb hg hat;refine hK.out _ _ ?_;clear hK K;refine norm_ (a':= ?_) ?_ ?_;rotate_left
 ·show Act.put _ (some 79) _=_;simp only [Act.put,Zg,Zh,Zi,i64_w,i32_w];rfl
 refine pv_ 19 18 1048575 k0 ?_;refine done_ (dWz k0.o kr_) ?_
 try go_wp2
 go_roundg k2
 case measure=>have:=i2.o;have:=g2.o;omega
 case rel=>exact ⟨(C3),(wrap64 (h0+1)),sd_,H',⟨by have:=i2.o;have:=g2.o;omega⟩,⟨nm_ b0⟩,⟨nm_ c0⟩,⟨xd_ z2.o⟩,⟨bl_⟩⟩
mutual
def ajz.j0:Nat->Int->Int->List Int->List Int->Bool->Option ((List (List Int))×Bool)
 |0,_,_,_,_,_=>none
 |k+1,x0,x1,x2,x3,x36=>if x36=true then (some (([] :List (List Int)),false)) else ((some (([] :List Int):List Int)).bind fun y295=>(if y295.length+x2.length<17592186044416 then ((some (y295++x2:List Int)).bind fun y298=>(if y298.length+x3.length<17592186044416 then (ajz.l0 k x0 x1 x2 x3 (y298++x3) 0) else (none))) else (none)))
def ajz.l0:Nat->Int->Int->List Int->List Int->List Int->Int->Option ((List (List Int))×Bool)
 |0,_,_,_,_,_,_=>none
 |k+1,x0,x1,x2,x3,x10,x11=>if x11<(x10.length:Int) then (if 0<=x11 then ((afz.f k x0 (rd x10 x11)).bind fun t305=>(if t305=true then (ajz.l1 k x0 x1 x2 x3 x10 x11 0) else (some (([] :List (List Int)),false)))) else (none)) else (ajz.l2 k x0 x1 x2 x3 ([] :List (List Int)) 0)
def ajz.l1:Nat->Int->Int->List Int->List Int->List Int->Int->Int->Option ((List (List Int))×Bool)
 |0,_,_,_,_,_,_,_=>none
 |k+1,x0,x1,x2,x3,x10,x11,x12=>if x12<x11 then (if 0<=x11 then (if x11<(x10.length:Int) then (if 0<=x12 then (if x12<(x10.length:Int) then (if (rd x10 x11)=(rd x10 x12) then (some (([] :List (List Int)),false)) else (ajz.l1 k x0 x1 x2 x3 x10 x11 (wrap64 (x12+1)))) else (none)) else (none)) else (none)) else (none)) else (ajz.l0 k x0 x1 x2 x3 x10 (wrap64 (x11+1)))
def ajz.l2:Nat->Int->Int->List Int->List Int->List (List Int)->Int->Option ((List (List Int))×Bool)
 |0,_,_,_,_,_,_=>none
 |k+1,x0,x1,x2,x3,x13,x14=>if x14<(x2.length:Int) then (ajz.l3 k x0 x1 x2 x3 x13 x14 ([] :List Int) 0) else (some (x13,true))
def ajz.l3:Nat->Int->Int->List Int->List Int->List (List Int)->Int->List Int->Int->Option ((List (List Int))×Bool)
 |0,_,_,_,_,_,_,_,_=>none
 |k+1,x0,x1,x2,x3,x13,x14,x15,x16=>if x16<(x3.length:Int) then (if 0<=x14 then (if x14<(x2.length:Int) then (if 0<=x16 then ((asz.f k x0 x1 (Go.bits .xor .i64 (rd x2 x14) (rd x3 x16))).bind fun bt310=>(if x15.length<17592186044416 then (ajz.l3 k x0 x1 x2 x3 x13 x14 (x15++ [bt310.1]) (wrap64 (x16+1))) else (none))) else (none)) else (none)) else (none)) else (if x13.length<5864062014805 then (ajz.l2 k x0 x1 x2 x3 (x13++ [x15]) (wrap64 (x14+1))) else (none))
end
def ajz.f (k:Nat) (a0 a1:Int) (l2:List Int) (l3:List Int):Option ((List (List Int))×Bool):=if (l2.length:Int)<1 then (ajz.j0 k a0 a1 l2 l3 true) else (if (l2.length:Int)>20 then (ajz.j0 k a0 a1 l2 l3 true) else (if (l3.length:Int)<1 then (ajz.j0 k a0 a1 l2 l3 true) else (ajz.j0 k a0 a1 l2 l3 (decide ((l3.length:Int)>20)))))
theorem ajz.a6z: ∀k,(∀y0 y1 y2 y3 y4,LeO (ajz.j0 k y0 y1 y2 y3 y4) (ajz.j0 (k+1) y0 y1 y2 y3 y4))/\(∀y0 y1 y2 y3 y4 y5,LeO (ajz.l0 k y0 y1 y2 y3 y4 y5) (ajz.l0 (k+1) y0 y1 y2 y3 y4 y5))/\(∀y0 y1 y2 y3 y4 y5 y6,LeO (ajz.l1 k y0 y1 y2 y3 y4 y5 y6) (ajz.l1 (k+1) y0 y1 y2 y3 y4 y5 y6))/\(∀y0 y1 y2 y3 y4 y5,LeO (ajz.l2 k y0 y1 y2 y3 y4 y5) (ajz.l2 (k+1) y0 y1 y2 y3 y4 y5))/\(∀y0 y1 y2 y3 y4 y5 y6 y7,LeO (ajz.l3 k y0 y1 y2 y3 y4 y5 y6 y7) (ajz.l3 (k+1) y0 y1 y2 y3 y4 y5 y6 y7))
 |0=>⟨fun _ _ _ _ _ r h=>by simp [ajz.j0] at h,fun _ _ _ _ _ _ r h=>by simp [ajz.l0] at h,fun _ _ _ _ _ _ _ r h=>by simp [ajz.l1] at h,fun _ _ _ _ _ _ r h=>by simp [ajz.l2] at h,fun _ _ _ _ _ _ _ _ r h=>by simp [ajz.l3] at h⟩
 |k+1=>by
  obtain ⟨d0,e0,a0,b0,c0⟩:=ajz.a6z k;refine ⟨?_,?_,?_,?_,?_⟩
  ·intro y0 y1 y2 y3 y4;unfold ajz.j0
   repeat' with_reducible first|apply d0|apply e0|apply a0|apply b0|apply c0|apply afz.mono|apply asz.mono|apply Yg|apply Yh|apply Yi|refine Yj ?_ fun _=>?_
  ·intro y0 y1 y2 y3 y4 y5;unfold ajz.l0
   repeat' with_reducible first|apply d0|apply e0|apply a0|apply b0|apply c0|apply afz.mono|apply asz.mono|apply Yg|apply Yh|apply Yi|refine Yj ?_ fun _=>?_
  ·intro y0 y1 y2 y3 y4 y5 y6;unfold ajz.l1
   repeat' with_reducible first|apply d0|apply e0|apply a0|apply b0|apply c0|apply afz.mono|apply asz.mono|apply Yg|apply Yh|apply Yi|refine Yj ?_ fun _=>?_
  ·intro y0 y1 y2 y3 y4 y5;unfold ajz.l2
   repeat' with_reducible first|apply d0|apply e0|apply a0|apply b0|apply c0|apply afz.mono|apply asz.mono|apply Yg|apply Yh|apply Yi|refine Yj ?_ fun _=>?_
  ·intro y0 y1 y2 y3 y4 y5 y6 y7;unfold ajz.l3
   repeat' with_reducible first|apply d0|apply e0|apply a0|apply b0|apply c0|apply afz.mono|apply asz.mono|apply Yg|apply Yh|apply Yi|refine Yj ?_ fun _=>?_
theorem ajz.mono: ∀a0 a1 a2 a3 k,LeO (ajz.f k a0 a1 a2 a3) (ajz.f (k+1) a0 a1 a2 a3):=by
 intro a0 a1 a2 a3 k;obtain ⟨e0,f0,b0,c0,d0⟩:=ajz.a6z k;unfold ajz.f
 repeat' with_reducible first|apply e0|apply f0|apply b0|apply c0|apply d0|apply afz.mono|apply asz.mono|apply Yg|apply Yh|apply Yi|refine Yj ?_ fun _=>?_
theorem ajz.calls (k:Nat) (a0 a1:Int) (A2:Option Addr) (c2:Nat) (l2:List Int) (A3:Option Addr) (c3:Nat) (l3:List Int) (r1:List (List Int)) (r2:Bool) (w:World) (u2:Kd.C (Kd.int .i64) w A2 l2.length l2) (y2:l2.length<=c2) (n2:Kd.C (Kd.int .i64) w A3 l3.length l3) (p2:l3.length<=c3) (h:ajz.f k a0 a1 l2 l3=some (r1,r2)):
  Calls prog 130 #[.int .i64 a0, .int .u32 a1, .slice A2 l2.length c2, .slice A3 l3.length c3] w fun e w'=> ∃t2:Value,e= .returned (.tuple #[t2, .bool r2])/\Kd.S (Kd.slice 3 (Kd.int .i64)) 57 w' w.heap.size (fun _=>True) t2 r1/\Below w.heap.size w w':=by
 have I1:=Za u2;have Y2:=Za y2;clear u2 y2;have N1:=Za n2;have Z2:=Za p2;clear n2 p2;have HB:=Za (Zw w.heap.size w);have H:=h;clear h;unfold ajz.f at H;have g2:=Za H;clear H;go_enter func130,ntmps130
 go_upto_region 1 with (fail)
 repeat (go_quiet (fail);go_upto_region 1 with (fail))
 go_cut [36] (fun R2 wc=> ∃(kq:Nat) (E0:Bool),R2= .bool E0/\Aside0 (ajz.j0 kq a0 a1 l2 l3 E0=some (r1,r2))/\Aside0 (kq<=k)/\Aside0 (Below w.heap.size w wc))
 case first=>
  have H:=g2.o;clear g2;by_cases c6:(l2.length:Int)<1
  ·rw [Ya c6] at H;have S0:=Zd c6;have V1:decide (l2.length<1)=true:=Zd (by omega);clear c6
   (first|rw [S0] |(simp only [i64_w,i32_w];rw [S0])|skip)
   have H':=Za H;clear H;go_wp2
   repeat (go_quiet (fail);try go_wp2)
   go_meet
   case rel=>exact ⟨_,(true),sd_,H',⟨by first|omega|exact Zv _⟩,⟨bl_⟩⟩
  ·rw [Yb c6] at H;have S0:=Ze c6;have V1:decide (l2.length<1)=false:=Ze (by omega);clear c6
   (first|rw [S0] |(simp only [i64_w,i32_w];rw [S0])|skip)
   by_cases c7:(l2.length:Int)>20
   ·rw [Ya c7] at H;have X1:decide (20<(l2.length:Int))=true:=Zd c7;have Z1:decide (20<l2.length)=true:=Zd (by omega);clear c7;have H':=Za H;clear H;go_wp2
    repeat (go_quiet (fail);try go_wp2)
    go_meet
    case rel=>exact ⟨_,(true),sd_,H',⟨by first|omega|exact Zv _⟩,⟨bl_⟩⟩
   ·rw [Yb c7] at H;have X1:decide (20<(l2.length:Int))=false:=Ze c7;have Z1:decide (20<l2.length)=false:=Ze (by omega);clear c7;by_cases c8:(l3.length:Int)<1
    ·rw [Ya c8] at H;have U1:=Zd c8;have P1:decide (l3.length<1)=true:=Zd (by omega);clear c8;have H':=Za H;clear H;go_wp2
     repeat (go_quiet (fail);try go_wp2)
     go_meet
     case rel=>exact ⟨_,(true),sd_,H',⟨by first|omega|exact Zv _⟩,⟨bl_⟩⟩
    ·rw [Yb c8] at H;have U1:=Ze c8;have P1:decide (l3.length<1)=false:=Ze (by omega);clear c8;have H':=Za H;clear H;go_wp2
     repeat (go_quiet (fail);try go_wp2)
     go_meet
     case rel=>exact ⟨_,(decide ((l3.length:Int)>20)),sd_,H',⟨by first|omega|exact Zv _⟩,⟨bl_⟩⟩
 case rest=>
  clear g2;obtain ⟨kq,E0,rfl,HA,f1,HB⟩:=hcut;rcases kq with _|D2
  ·exact Yf HA.o (by simp [ajz.j0])
  have H:=HA.o;clear HA;simp only [ajz.j0] at H;by_cases c9:E0=true
  ·subst c9;rw [Ya rfl] at H;simp only [Zx,Zy] at H;obtain ⟨rfl,rfl⟩:=H;go_wp2
   repeat (go_quiet (fail);try go_wp2)
   go_ret2;exact ⟨_,er_,nl_,bl_⟩
  ·replace c9:=Zr c9;subst c9;rw [Yb (show¬(false=true) by decide)] at H;obtain ⟨d1,y0⟩: ∃y_:List Int,y_=(([] :List Int)):=⟨_,rfl⟩
   first|rw [Zl, <-y0] at H|rw [<-y0] at H
   (try dsimp only at H)
   have t0:=Za y0;clear y0;obtain ⟨P0,H⟩:=ij_ H;obtain ⟨c1,z0⟩: ∃y_:List Int,y_=(d1++l2):=⟨_,rfl⟩
   first|rw [Zl, <-z0] at H|rw [<-z0] at H
   (try dsimp only at H)
   have U0:=Za z0;clear z0;obtain ⟨N0,H⟩:=ij_ H;obtain ⟨f0,C0⟩: ∃y_:List Int,y_=(c1++l3):=⟨_,rfl⟩
   first|rw [Zl, <-C0] at H|rw [<-C0] at H
   (try dsimp only at H)
   have T0:=Za C0;clear C0;have H':=Za H;clear H
   go_wp2_with (first|((with_reducible refine aTz (N:=37) rfl ?_);(try (refine aYz (by rfl) ?_;dsimp only));refine Kd.R_lit (Kd.int .i64) _ 3 ?hg (N:=37) ?hd (xs:=([] :List Int)) (inner:= []) (ok:=fun _=>True) (okp:=fun _=>True) ?hr ?hp (fun _ hk=>hk) trivial (Zw _ _) (Zv _) (by simp) ?_;(case hd=>rfl);(case hg=>rfl);(case hr=>first|(go_simp;done)|(go_simp;rfl));(case hp=>exact (Reps.none _ _));intro I0 B2 i0 hb B1 v0;clear B1 v0;(first|rw [<-t0.o] at i0|(simp only [Int.reduceToNat] at i0;rw [<-t0.o] at i0));have n_:=Zb (Za (Kd.bCz i0 (adz bl_))) (hs_ HB hb);clear HB;obtain ⟨q0,HB⟩:=n_;clear hb i0)|((with_reducible refine amz (b:= .append) (xs:= #[.tmp 37, .tmp 38]) rfl ?_);(try (refine aYz (by rfl) ?_;dsimp only));at_builtin;refine Kd.bVz (Kd.int .i64) (w0:=w) w.heap.size rfl (.tmp 37) (.tmp 38) 57 3 (.int .i64 0) 8 rfl underlying57 info3 rfl (by decide) (by omega) I0 d1 l2 _ _ _ (fun _=>True) (fun _=>False) rfl rfl (xd_ q0.o) (by repeat (first|exact (Kd.aMz I1.o HB.o)|(with_reducible refine Kd.cez ?_ _)|(with_reducible refine Kd.bEz ?_ _)|(with_reducible refine Kd.cpz ?_))) (fun _ _ h=>h) (fun _ h=>h.elim) (fun _ _=>trivial) bl_ (adz bl_) (by have:=P0.o;omega) ?_;intro O0 I2 ho hb hg hat;rw [<-U0.o] at ho;have n_:=Zb (Za (hb)) (Za (ho));clear HB q0;obtain ⟨HB,p0⟩:=n_;clear ho hb hg hat)|((with_reducible refine amz (b:= .append) (xs:= #[.tmp 40, .tmp 41]) rfl ?_);(try (refine aYz (by rfl) ?_;dsimp only));at_builtin;refine Kd.bVz (Kd.int .i64) (w0:=w) w.heap.size rfl (.tmp 40) (.tmp 41) 57 3 (.int .i64 0) 8 rfl underlying57 info3 rfl (by decide) (by omega) O0 c1 l3 _ _ _ (fun _=>True) (fun _=>False) rfl rfl (xd_ p0.o) (by repeat (first|exact (Kd.aMz N1.o HB.o)|(with_reducible refine Kd.cez ?_ _)|(with_reducible refine Kd.bEz ?_ _)|(with_reducible refine Kd.cpz ?_))) (fun _ _ h=>h) (fun _ h=>h.elim) (fun _ _=>trivial) bl_ (adz bl_) (by have:=N0.o;omega) ?_;intro j1 H2 ho hb hg hat;rw [<-T0.o] at ho;have n_:=Zb (Za (hb)) (Za (ho));clear HB p0;obtain ⟨HB,W0⟩:=n_;clear ho hb hg hat))
   repeat (go_quiet (first|((with_reducible refine aTz (N:=37) rfl ?_);(try (refine aYz (by rfl) ?_;dsimp only));refine Kd.R_lit (Kd.int .i64) _ 3 ?hg (N:=37) ?hd (xs:=([] :List Int)) (inner:= []) (ok:=fun _=>True) (okp:=fun _=>True) ?hr ?hp (fun _ hk=>hk) trivial (Zw _ _) (Zv _) (by simp) ?_;(case hd=>rfl);(case hg=>rfl);(case hr=>first|(go_simp;done)|(go_simp;rfl));(case hp=>exact (Reps.none _ _));intro I0 B2 i0 hb B1 v0;clear B1 v0;(first|rw [<-t0.o] at i0|(simp only [Int.reduceToNat] at i0;rw [<-t0.o] at i0));have n_:=Zb (Za (Kd.bCz i0 (adz bl_))) (hs_ HB hb);clear HB;obtain ⟨q0,HB⟩:=n_;clear hb i0)|((with_reducible refine amz (b:= .append) (xs:= #[.tmp 37, .tmp 38]) rfl ?_);(try (refine aYz (by rfl) ?_;dsimp only));at_builtin;refine Kd.bVz (Kd.int .i64) (w0:=w) w.heap.size rfl (.tmp 37) (.tmp 38) 57 3 (.int .i64 0) 8 rfl underlying57 info3 rfl (by decide) (by omega) I0 d1 l2 _ _ _ (fun _=>True) (fun _=>False) rfl rfl (xd_ q0.o) (by repeat (first|exact (Kd.aMz I1.o HB.o)|(with_reducible refine Kd.cez ?_ _)|(with_reducible refine Kd.bEz ?_ _)|(with_reducible refine Kd.cpz ?_))) (fun _ _ h=>h) (fun _ h=>h.elim) (fun _ _=>trivial) bl_ (adz bl_) (by have:=P0.o;omega) ?_;intro O0 I2 ho hb hg hat;rw [<-U0.o] at ho;have n_:=Zb (Za (hb)) (Za (ho));clear HB q0;obtain ⟨HB,p0⟩:=n_;clear ho hb hg hat)|((with_reducible refine amz (b:= .append) (xs:= #[.tmp 40, .tmp 41]) rfl ?_);(try (refine aYz (by rfl) ?_;dsimp only));at_builtin;refine Kd.bVz (Kd.int .i64) (w0:=w) w.heap.size rfl (.tmp 40) (.tmp 41) 57 3 (.int .i64 0) 8 rfl underlying57 info3 rfl (by decide) (by omega) O0 c1 l3 _ _ _ (fun _=>True) (fun _=>False) rfl rfl (xd_ p0.o) (by repeat (first|exact (Kd.aMz N1.o HB.o)|(with_reducible refine Kd.cez ?_ _)|(with_reducible refine Kd.bEz ?_ _)|(with_reducible refine Kd.cpz ?_))) (fun _ _ h=>h) (fun _ h=>h.elim) (fun _ _=>trivial) bl_ (adz bl_) (by have:=N0.o;omega) ?_;intro j1 H2 ho hb hg hat;rw [<-T0.o] at ho;have n_:=Zb (Za (hb)) (Za (ho));clear HB p0;obtain ⟨HB,W0⟩:=n_;clear ho hb hg hat));try go_wp2_with (first|((with_reducible refine aTz (N:=37) rfl ?_);(try (refine aYz (by rfl) ?_;dsimp only));refine Kd.R_lit (Kd.int .i64) _ 3 ?hg (N:=37) ?hd (xs:=([] :List Int)) (inner:= []) (ok:=fun _=>True) (okp:=fun _=>True) ?hr ?hp (fun _ hk=>hk) trivial (Zw _ _) (Zv _) (by simp) ?_;(case hd=>rfl);(case hg=>rfl);(case hr=>first|(go_simp;done)|(go_simp;rfl));(case hp=>exact (Reps.none _ _));intro I0 B2 i0 hb B1 v0;clear B1 v0;(first|rw [<-t0.o] at i0|(simp only [Int.reduceToNat] at i0;rw [<-t0.o] at i0));have n_:=Zb (Za (Kd.bCz i0 (adz bl_))) (hs_ HB hb);clear HB;obtain ⟨q0,HB⟩:=n_;clear hb i0)|((with_reducible refine amz (b:= .append) (xs:= #[.tmp 37, .tmp 38]) rfl ?_);(try (refine aYz (by rfl) ?_;dsimp only));at_builtin;refine Kd.bVz (Kd.int .i64) (w0:=w) w.heap.size rfl (.tmp 37) (.tmp 38) 57 3 (.int .i64 0) 8 rfl underlying57 info3 rfl (by decide) (by omega) I0 d1 l2 _ _ _ (fun _=>True) (fun _=>False) rfl rfl (xd_ q0.o) (by repeat (first|exact (Kd.aMz I1.o HB.o)|(with_reducible refine Kd.cez ?_ _)|(with_reducible refine Kd.bEz ?_ _)|(with_reducible refine Kd.cpz ?_))) (fun _ _ h=>h) (fun _ h=>h.elim) (fun _ _=>trivial) bl_ (adz bl_) (by have:=P0.o;omega) ?_;intro O0 I2 ho hb hg hat;rw [<-U0.o] at ho;have n_:=Zb (Za (hb)) (Za (ho));clear HB q0;obtain ⟨HB,p0⟩:=n_;clear ho hb hg hat)|((with_reducible refine amz (b:= .append) (xs:= #[.tmp 40, .tmp 41]) rfl ?_);(try (refine aYz (by rfl) ?_;dsimp only));at_builtin;refine Kd.bVz (Kd.int .i64) (w0:=w) w.heap.size rfl (.tmp 40) (.tmp 41) 57 3 (.int .i64 0) 8 rfl underlying57 info3 rfl (by decide) (by omega) O0 c1 l3 _ _ _ (fun _=>True) (fun _=>False) rfl rfl (xd_ p0.o) (by repeat (first|exact (Kd.aMz N1.o HB.o)|(with_reducible refine Kd.cez ?_ _)|(with_reducible refine Kd.bEz ?_ _)|(with_reducible refine Kd.cpz ?_))) (fun _ _ h=>h) (fun _ h=>h.elim) (fun _ _=>trivial) bl_ (adz bl_) (by have:=N0.o;omega) ?_;intro j1 H2 ho hb hg hat;rw [<-T0.o] at ho;have n_:=Zb (Za (hb)) (Za (ho));clear HB p0;obtain ⟨HB,W0⟩:=n_;clear ho hb hg hat)))
   go_loopg [11] D2 (fun kq N2 w'=> ∃(c0:Int),N2= .int .i64 c0/\Aside0 (ajz.l0 kq a0 a1 l2 l3 f0 c0=some (r1,r2))/\Aside0 (kq<=D2)/\Aside0 (Kd.R (Kd.int .i64) 3 w' w.heap.size (fun _=>True) j1 f0)/\Aside0 (Below w.heap.size w w'))
   case atStart=>exact ⟨(0),sd_,H',⟨Zv _⟩,⟨xd_ W0.o⟩,⟨bl_⟩⟩
   clear H';obtain ⟨c0,rfl,HA,g1,g0,HB⟩:=hrel;rcases gk with _|k2
   ·exact Yf HA.o (by simp [ajz.l0])
   have H:=HA.o;clear HA;simp only [ajz.l0] at H;by_cases q1:c0<(f0.length:Int)
   rotate_left
   ·rw [Yb q1] at H;have V0:=Ze q1;clear q1;have H':=Za H;clear H;obtain ⟨O2,U2,Y1⟩:=Kd.aQz g0.o;subst Y1;go_wp2
    repeat (go_quiet (fail);try go_wp2)
    go_loopg [13,14] k2 (fun kq S2 M2 w'=> ∃(o0:List (List Int)) (k0:Int),M2= .int .i64 k0/\Aside0 (ajz.l2 kq a0 a1 l2 l3 o0 k0=some (r1,r2))/\Aside0 (kq<=k2)/\Aside0 (Kd.S (Kd.slice 3 (Kd.int .i64)) 57 w' w.heap.size (fun _=>True) S2 o0)/\Aside0 (Below w.heap.size w w'))
    case atStart=>exact ⟨(([] :List (List Int))),(0),sd_,H',⟨Zv _⟩,⟨nl_⟩,⟨bl_⟩⟩
    clear H';clear V0;obtain ⟨o0,k0,rfl,HA,b1,b0,HB⟩:=hrel;rcases gk with _|k3
    ·exact Yf HA.o (by simp [ajz.l2])
    have H:=HA.o;clear HA;simp only [ajz.l2] at H;by_cases p1:k0<(l2.length:Int)
    rotate_left
    ·rw [Yb p1] at H;have e1:=Ze p1;clear p1;simp only [Zx,Zy] at H;obtain ⟨rfl,rfl⟩:=H;go_wp2
     repeat (go_quiet (fail);try go_wp2)
     go_ret2;exact ⟨_,er_,xd_ b0.o,bl_⟩
    rw [Ya p1] at H;have e1:=Zd p1;clear p1;have H':=Za H;clear H;go_wp2
    repeat (go_quiet (fail);try go_wp2)
    go_loopg [15,16] k3 (fun kq q2 V2 w'=> ∃(d0:List Int) (n0:Int),V2= .int .i64 n0/\Aside0 (ajz.l3 kq a0 a1 l2 l3 o0 k0 d0 n0=some (r1,r2))/\Aside0 (kq<=k3)/\Aside0 (Kd.S (Kd.slice 3 (Kd.int .i64)) 57 w' w.heap.size (fun k_=>some k_≠(q2:Value).ownBlock) u13 o0)/\Aside0 (Kd.R (Kd.int .i64) 3 w' w.heap.size (fun _=>True) q2 d0)/\Aside0 (Below w.heap.size w w'))
    case atStart=>exact ⟨(([] :List Int)),(0),sd_,H',⟨Zv _⟩,⟨sm_ b0⟩,⟨nl_⟩,⟨bl_⟩⟩
    clear H';clear e1;obtain ⟨d0,n0,rfl,HA,L1,b0,e0,HB⟩:=hrel;rcases gk with _|k4
    ·exact Yf HA.o (by simp [ajz.l3])
    have H:=HA.o;clear HA;simp only [ajz.l3] at H;by_cases s1:n0<(l3.length:Int)
    rotate_left
    ·rw [Yb s1] at H;have H1:=Ze s1;clear s1;obtain ⟨J0,H⟩:=ij_ H;obtain ⟨a2,A0⟩: ∃y_:List (List Int),y_=(o0++ [d0]):=⟨_,rfl⟩
     first|rw [Zl, <-A0] at H|rw [<-A0] at H
     (try dsimp only at H)
     have K0:=Za A0;clear A0;have H':=Za H;clear H;obtain ⟨G0,F0,b2⟩:=Kd.aQz e0.o;subst b2
     go_wp2_with (first|((with_reducible refine amz (b:= .append) (xs:= #[.tmp 101, .tmp 103]) rfl ?_);(try (refine aYz (by rfl) ?_;dsimp only));at_builtin;refine Kd.bLz (Kd.slice 3 (Kd.int .i64)) (w0:=w) w.heap.size rfl (.tmp 101) (.tmp 103) 68 57 (.slice none 0 0) 24 rfl underlying68 info57 rfl (by decide) (by omega) u13 o0 d0 [.slice G0 d0.length F0] (fun _=>True) (fun k_=>some k_=(.slice G0 d0.length F0:Value).ownBlock) rfl rfl (Kd.M_row (Kd.aKz (Kd.b5z rfl (Kd.aKz (ok':=fun k_=>((fun _=>True)) k_/\some k_≠(u13:Value).ownBlock) (Kd.bqz (e0.o) (Kd.bFz b0.o) (by decide)) (fun k_ hk=>⟨trivial,hk.2⟩))) (fun _ h_=>h_))) (fun k_ z1=>((Kd.aKz (ok':=fun k_=>((fun _=>True)) k_/\some k_≠(u13:Value).ownBlock) (Kd.bqz (e0.o) (Kd.bFz b0.o) (by decide)) (fun k_ hk=>⟨trivial,hk.2⟩))).1 k_ z1.symm) (fun _ _=>trivial) (sm_ b0) bl_ (adz bl_) (by have:=J0.o;omega) ?_;intro D1 C2 ho hb hg hat;rw [<-K0.o] at ho;have n_:=Zb (Za (hb)) (Za (ho));clear HB b0 e0;obtain ⟨HB,M0⟩:=n_;clear ho hb hg hat))
     repeat (go_quiet (first|((with_reducible refine amz (b:= .append) (xs:= #[.tmp 101, .tmp 103]) rfl ?_);(try (refine aYz (by rfl) ?_;dsimp only));at_builtin;refine Kd.bLz (Kd.slice 3 (Kd.int .i64)) (w0:=w) w.heap.size rfl (.tmp 101) (.tmp 103) 68 57 (.slice none 0 0) 24 rfl underlying68 info57 rfl (by decide) (by omega) u13 o0 d0 [.slice G0 d0.length F0] (fun _=>True) (fun k_=>some k_=(.slice G0 d0.length F0:Value).ownBlock) rfl rfl (Kd.M_row (Kd.aKz (Kd.b5z rfl (Kd.aKz (ok':=fun k_=>((fun _=>True)) k_/\some k_≠(u13:Value).ownBlock) (Kd.bqz (e0.o) (Kd.bFz b0.o) (by decide)) (fun k_ hk=>⟨trivial,hk.2⟩))) (fun _ h_=>h_))) (fun k_ z1=>((Kd.aKz (ok':=fun k_=>((fun _=>True)) k_/\some k_≠(u13:Value).ownBlock) (Kd.bqz (e0.o) (Kd.bFz b0.o) (by decide)) (fun k_ hk=>⟨trivial,hk.2⟩))).1 k_ z1.symm) (fun _ _=>trivial) (sm_ b0) bl_ (adz bl_) (by have:=J0.o;omega) ?_;intro D1 C2 ho hb hg hat;rw [<-K0.o] at ho;have n_:=Zb (Za (hb)) (Za (ho));clear HB b0 e0;obtain ⟨HB,M0⟩:=n_;clear ho hb hg hat));try go_wp2_with (first|((with_reducible refine amz (b:= .append) (xs:= #[.tmp 101, .tmp 103]) rfl ?_);(try (refine aYz (by rfl) ?_;dsimp only));at_builtin;refine Kd.bLz (Kd.slice 3 (Kd.int .i64)) (w0:=w) w.heap.size rfl (.tmp 101) (.tmp 103) 68 57 (.slice none 0 0) 24 rfl underlying68 info57 rfl (by decide) (by omega) u13 o0 d0 [.slice G0 d0.length F0] (fun _=>True) (fun k_=>some k_=(.slice G0 d0.length F0:Value).ownBlock) rfl rfl (Kd.M_row (Kd.aKz (Kd.b5z rfl (Kd.aKz (ok':=fun k_=>((fun _=>True)) k_/\some k_≠(u13:Value).ownBlock) (Kd.bqz (e0.o) (Kd.bFz b0.o) (by decide)) (fun k_ hk=>⟨trivial,hk.2⟩))) (fun _ h_=>h_))) (fun k_ z1=>((Kd.aKz (ok':=fun k_=>((fun _=>True)) k_/\some k_≠(u13:Value).ownBlock) (Kd.bqz (e0.o) (Kd.bFz b0.o) (by decide)) (fun k_ hk=>⟨trivial,hk.2⟩))).1 k_ z1.symm) (fun _ _=>trivial) (sm_ b0) bl_ (adz bl_) (by have:=J0.o;omega) ?_;intro D1 C2 ho hb hg hat;rw [<-K0.o] at ho;have n_:=Zb (Za (hb)) (Za (ho));clear HB b0 e0;obtain ⟨HB,M0⟩:=n_;clear ho hb hg hat)))
     go_roundg k4
     case measure=>have:=f1.o;have:=g1.o;have:=b1.o;have:=L1.o;omega
     case rel=>exact ⟨(a2),(wrap64 (k0+1)),sd_,H',⟨by have:=f1.o;have:=g1.o;have:=b1.o;have:=L1.o;omega⟩,⟨xd_ M0.o⟩,⟨bl_⟩⟩
    rw [Ya s1] at H;have H1:=Zd s1;clear s1;obtain ⟨s2,H⟩:=ih_ H;obtain ⟨o2,H⟩:=ih_ H;obtain ⟨G2,H⟩:=ih_ H;obtain ⟨⟨r0,k1⟩,j2,H⟩:=ob_ H
    (try dsimp only at H)
    obtain ⟨R0,H⟩:=ij_ H;obtain ⟨i2,B0⟩: ∃y_:List Int,y_=(d0++ [r0]):=⟨_,rfl⟩
    first|rw [Zl, <-B0] at H|rw [<-B0] at H
    (try dsimp only at H)
    have X0:=Za B0;clear B0;have H':=Za H;clear H;obtain ⟨_,W1,J1,X2,W2⟩:=iy_ I1.o HB k0 as_ as_;cases W1
    obtain ⟨_,O1,K1,L2,P2⟩:=iy_ N1.o HB n0 as_ as_;cases O1
    go_wp2_with (first|(go_at_call 146;(with_reducible refine (asz.calls k4 a0 a1 (Go.bits .xor .i64 (rd l2 k0) (rd l3 n0)) r0 k1 _ j2.o).mono ?_);rintro e w' ⟨rfl,⟨nd,rfl⟩⟩;(try exact dd_))|((with_reducible refine amz (b:= .append) (xs:= #[.tmp 97, .tmp 99]) rfl ?_);(try (refine aYz (by rfl) ?_;dsimp only));at_builtin;refine Kd.brz (Kd.int .i64) (w0:=w) w.heap.size rfl (.tmp 97) (.tmp 99) 57 3 (.int .i64 0) 8 rfl underlying57 info3 rfl (by decide) (by omega) u15 d0 r0 [.int .i64 r0] (fun _=>True) (fun _=>False) rfl rfl rfl (fun _ hk=>hk.elim) (fun _ _=>trivial) (xd_ e0.o) bl_ (adz bl_) (by have:=R0.o;omega) ?_;intro A1 E2 ho hb hg hat;rw [<-X0.o] at ho;have n_:=Zb (Za (Kd.cFz (ok:=(fun _=>True)) (sm_ b0) hg hat)) (Zb (Za (hb)) (Za (ho)));clear b0 HB e0;obtain ⟨b0,HB,H0⟩:=n_;clear ho hb hg hat))
    repeat (go_quiet (first|(go_at_call 146;(with_reducible refine (asz.calls k4 a0 a1 (Go.bits .xor .i64 (rd l2 k0) (rd l3 n0)) r0 k1 _ j2.o).mono ?_);rintro e w' ⟨rfl,⟨nd,rfl⟩⟩;(try exact dd_))|((with_reducible refine amz (b:= .append) (xs:= #[.tmp 97, .tmp 99]) rfl ?_);(try (refine aYz (by rfl) ?_;dsimp only));at_builtin;refine Kd.brz (Kd.int .i64) (w0:=w) w.heap.size rfl (.tmp 97) (.tmp 99) 57 3 (.int .i64 0) 8 rfl underlying57 info3 rfl (by decide) (by omega) u15 d0 r0 [.int .i64 r0] (fun _=>True) (fun _=>False) rfl rfl rfl (fun _ hk=>hk.elim) (fun _ _=>trivial) (xd_ e0.o) bl_ (adz bl_) (by have:=R0.o;omega) ?_;intro A1 E2 ho hb hg hat;rw [<-X0.o] at ho;have n_:=Zb (Za (Kd.cFz (ok:=(fun _=>True)) (sm_ b0) hg hat)) (Zb (Za (hb)) (Za (ho)));clear b0 HB e0;obtain ⟨b0,HB,H0⟩:=n_;clear ho hb hg hat));try go_wp2_with (first|(go_at_call 146;(with_reducible refine (asz.calls k4 a0 a1 (Go.bits .xor .i64 (rd l2 k0) (rd l3 n0)) r0 k1 _ j2.o).mono ?_);rintro e w' ⟨rfl,⟨nd,rfl⟩⟩;(try exact dd_))|((with_reducible refine amz (b:= .append) (xs:= #[.tmp 97, .tmp 99]) rfl ?_);(try (refine aYz (by rfl) ?_;dsimp only));at_builtin;refine Kd.brz (Kd.int .i64) (w0:=w) w.heap.size rfl (.tmp 97) (.tmp 99) 57 3 (.int .i64 0) 8 rfl underlying57 info3 rfl (by decide) (by omega) u15 d0 r0 [.int .i64 r0] (fun _=>True) (fun _=>False) rfl rfl rfl (fun _ hk=>hk.elim) (fun _ _=>trivial) (xd_ e0.o) bl_ (adz bl_) (by have:=R0.o;omega) ?_;intro A1 E2 ho hb hg hat;rw [<-X0.o] at ho;have n_:=Zb (Za (Kd.cFz (ok:=(fun _=>True)) (sm_ b0) hg hat)) (Zb (Za (hb)) (Za (ho)));clear b0 HB e0;obtain ⟨b0,HB,H0⟩:=n_;clear ho hb hg hat)))
    go_roundg k4
    case measure=>have:=f1.o;have:=g1.o;have:=b1.o;have:=L1.o;omega
    case rel=>exact ⟨(i2),(wrap64 (n0+1)),sd_,H',⟨by have:=f1.o;have:=g1.o;have:=b1.o;have:=L1.o;omega⟩,⟨sm_ b0⟩,⟨xd_ H0.o⟩,⟨bl_⟩⟩
   rw [Ya q1] at H;have V0:=Zd q1;clear q1;obtain ⟨y1,H⟩:=ih_ H;obtain ⟨e2,t1,H⟩:=ob_ H
   (try dsimp only at H)
   by_cases M1:e2=true
   rotate_left
   ·replace M1:=Zr M1;subst M1;rw [Yb (show¬(false=true) by decide)] at H;simp only [Zx,Zy] at H;obtain ⟨rfl,rfl⟩:=H;obtain ⟨T2,Q2,R1⟩:=Kd.aQz g0.o;subst R1;obtain ⟨u0,m1,D0,G1,C1⟩:=ix_ (Kd.aHz g0.o).2.2 c0 as_ as_;cases m1
    go_wp2_with (first|(go_at_call 106;(with_reducible refine (afz.calls k2 a0 (rd f0 c0) false _ t1.o).mono ?_);rintro e w' ⟨rfl,⟨nd,rfl⟩⟩;(try exact dd_)))
    repeat (go_quiet (first|(go_at_call 106;(with_reducible refine (afz.calls k2 a0 (rd f0 c0) false _ t1.o).mono ?_);rintro e w' ⟨rfl,⟨nd,rfl⟩⟩;(try exact dd_)));try go_wp2_with (first|(go_at_call 106;(with_reducible refine (afz.calls k2 a0 (rd f0 c0) false _ t1.o).mono ?_);rintro e w' ⟨rfl,⟨nd,rfl⟩⟩;(try exact dd_))))
    go_ret2;exact ⟨_,er_,nl_,bl_⟩
   subst M1;rw [Ya rfl] at H;have H':=Za H;clear H;obtain ⟨J2,T1,S1⟩:=Kd.aQz g0.o;subst S1;obtain ⟨u0,m1,D0,G1,C1⟩:=ix_ (Kd.aHz g0.o).2.2 c0 as_ as_;cases m1
   go_wp2_with (first|(go_at_call 106;(with_reducible refine (afz.calls k2 a0 (rd f0 c0) true _ t1.o).mono ?_);rintro e w' ⟨rfl,⟨nd,rfl⟩⟩;(try exact dd_)))
   repeat (go_quiet (first|(go_at_call 106;(with_reducible refine (afz.calls k2 a0 (rd f0 c0) true _ t1.o).mono ?_);rintro e w' ⟨rfl,⟨nd,rfl⟩⟩;(try exact dd_)));try go_wp2_with (first|(go_at_call 106;(with_reducible refine (afz.calls k2 a0 (rd f0 c0) true _ t1.o).mono ?_);rintro e w' ⟨rfl,⟨nd,rfl⟩⟩;(try exact dd_))))
   go_loopg [12] k2 (fun kq K2 w'=> ∃(h0:Int),K2= .int .i64 h0/\Aside0 (ajz.l1 kq a0 a1 l2 l3 f0 c0 h0=some (r1,r2))/\Aside0 (kq<=k2)/\Aside0 (Kd.R (Kd.int .i64) 3 w' w.heap.size (fun _=>True) (.slice (some u0) f0.length T1) f0)/\Aside0 (Below w.heap.size w w'))
   case atStart=>exact ⟨(0),sd_,H',⟨Zv _⟩,⟨xd_ g0.o⟩,⟨bl_⟩⟩
   clear H';clear V0 y1 D0 G1 C1;obtain ⟨h0,rfl,HA,b1,g0,HB⟩:=hrel;rcases gk with _|k3
   ·exact Yf HA.o (by simp [ajz.l1])
   have H:=HA.o;clear HA;simp only [ajz.l1] at H;by_cases u1:h0<c0
   rotate_left
   ·rw [Yb u1] at H;have v1:=Ze u1;clear u1;have H':=Za H;clear H;go_wp2
    repeat (go_quiet (fail);try go_wp2)
    go_roundg k3
    case measure=>have:=f1.o;have:=g1.o;have:=b1.o;omega
    case rel=>exact ⟨(wrap64 (c0+1)),sd_,H',⟨by have:=f1.o;have:=g1.o;have:=b1.o;omega⟩,⟨xd_ g0.o⟩,⟨bl_⟩⟩
   rw [Ya u1] at H;have v1:=Zd u1;clear u1;obtain ⟨w2,H⟩:=ih_ H;obtain ⟨F2,H⟩:=ih_ H;obtain ⟨v2,H⟩:=ih_ H;obtain ⟨z2,H⟩:=ih_ H;by_cases i1:(rd f0 c0)=(rd f0 h0)
   ·rw [Ya i1] at H;have E1:((rd f0 c0)==(rd f0 h0))=true:=Ye i1;have F1:((rd f0 c0) !=(rd f0 h0))=false:=Yc i1;clear i1;simp only [Zx,Zy] at H;obtain ⟨rfl,rfl⟩:=H;obtain ⟨Q0,o1,Z0,d2,f2⟩:=ix_ (Kd.aHz g0.o).2.2 c0 as_ as_;obtain rfl:u0=Q0:=(by injection o1);obtain ⟨L0,n1,Y0,m2,Q1⟩:=ix_ (Kd.aHz g0.o).2.2 h0 as_ as_;obtain rfl:u0=L0:=(by injection n1);go_wp2
    repeat (go_quiet (fail);try go_wp2)
    go_ret2;exact ⟨_,er_,nl_,bl_⟩
   ·rw [Yb i1] at H;have E1:((rd f0 c0)==(rd f0 h0))=false:=Zq i1;have F1:((rd f0 c0) !=(rd f0 h0))=true:=Yd i1;have H':=Za H;clear H;obtain ⟨Q0,o1,Z0,d2,f2⟩:=ix_ (Kd.aHz g0.o).2.2 c0 as_ as_;obtain rfl:u0=Q0:=(by injection o1);obtain ⟨L0,n1,Y0,m2,Q1⟩:=ix_ (Kd.aHz g0.o).2.2 h0 as_ as_;obtain rfl:u0=L0:=(by injection n1);go_wp2
    repeat (go_quiet (fail);try go_wp2)
    go_roundg k3
    case measure=>have:=f1.o;have:=g1.o;have:=b1.o;omega
    case rel=>exact ⟨(wrap64 (h0+1)),sd_,H',⟨by have:=f1.o;have:=g1.o;have:=b1.o;omega⟩,⟨xd_ g0.o⟩,⟨bl_⟩⟩
end Go.Proofs.Xc
end
