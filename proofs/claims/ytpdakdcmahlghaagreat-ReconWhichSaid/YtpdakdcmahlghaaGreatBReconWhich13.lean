-- Joined texts of this work (wip/tools/bundle.py).
import Derived.RegionCalls
import Derived.Tactics2
import Derived.Defers
import Derived.Laws.Pointers
import Derived.Laws.LoneSync
import Derived.ChangeAlike
import Derived.Laws.NewBlocks
import Derived.Test.YtpdakdcmahlghaaGreatBReconWhich12
set_option maxHeartbeats 8000000
set_option maxRecDepth 100000
set_option linter.unusedVariables false
set_option linter.unusedSimpArgs false
section
namespace Go.Proofs.Xc
open Go.RowKit Go.Proofs.Pw Go.Proofs.Pl Go.Proofs.Pm Tryz
attribute [local go_sem] a7z a8z bgz bhz aVz aWz a9z baz
def cmz.f (a0_0 a0_1 a0_2:Int) (l1:List Int):Option (List Int):=(btz.f a0_0 a0_1 a0_2).bind fun t522=>(if t522=98 then ((some (([(Int.tmod (wrap64 ((l1.length:Int) / 16777216)) 256) % 256,(Int.tmod (wrap64 ((l1.length:Int) / 65536)) 256) % 256,(Int.tmod (wrap64 ((l1.length:Int) / 256)) 256) % 256,(l1.length:Int) % 256] :List Int):List Int)).bind fun y523=>(if ([] :List Int).length+y523.length<140737488355328 then ((some (([] :List Int)++y523:List Int)).bind fun y526=>(if y526.length+l1.length<140737488355328 then (some (y526++l1)) else (none))) else (none))) else (if ([] :List Int).length+l1.length<140737488355328 then (some (([] :List Int)++l1)) else (none)))
theorem cmz.calls (f0 d0 e0:Int) (A1:Option Addr) (c1:Nat) (l1 r:List Int) (w:World) (P0:Kd.C (Kd.int .u8) w A1 l1.length l1) (O0:l1.length<=c1) (h:cmz.f f0 d0 e0 l1=some r):
  Calls prog 92 #[.agg #[.int .i64 f0, .int .i64 d0, .int .i64 e0], .slice A1 l1.length c1] w fun e w'=> ∃M0:Value,e= .returned (M0)/\Kd.R (Kd.int .u8) 5 w' w.heap.size (fun _=>True) M0 r/\Below w.heap.size w w':=by
 have T0:=underlying23;have N0:=Za P0;have e1:=Za O0;clear P0 O0;have HB:=Za (Zw w.heap.size w);have H:=h;clear h;unfold cmz.f at H;obtain ⟨g0,A3,H⟩:=ob_ H
 (try dsimp only at H)
 by_cases c4:g0=98
 rotate_left
 ·rw [Yb c4] at H;have H0:(g0==98)=false:=Zq c4;have L0:(g0 !=98)=true:=Yd c4;obtain ⟨v0,H⟩:=ij_ H;obtain ⟨S0,j0⟩: ∃y_:List Int,y_=(([] :List Int)++l1):=⟨_,rfl⟩
  first|rw [Zl, <-j0] at H|rw [<-j0] at H
  (try dsimp only at H)
  have E0:=Za j0;clear j0;obtain rfl:=Zn H;go_enter func92,ntmps92
  go_wp2_with (first|((with_reducible refine aTz (N:=2) rfl ?_);refine bx_ 2 #[.int .i64 f0, .int .i64 d0, .int .i64 e0] 23 ?_;intro c0 hg a1 l0 hb;have n_:=Zb (hs_ HB hb) (Zb (Za (l0)) (Zb (ag_ HB c0) (ag_ HB c0)));clear HB;obtain ⟨HB,a0,D0,u0⟩:=n_;clear hb l0 hg;obtain ⟨_,_,_,_,_,_⟩:=bc3_ a0.o)|((with_reducible refine aaz (f:=136) rfl ?_);refine gl_ (some 10) func136 #[.agg #[.int .i64 f0, .int .i64 d0, .int .i64 e0]] ?_;(with_reducible refine (btz.calls f0 d0 e0 g0 _ A3.o).mono ?_);rintro e Y0 ⟨rfl,hb⟩;refine ⟨_,rfl,?_⟩;have n_:=Zb (bb_ a0 hb) (hs_ HB hb);clear a0 HB;obtain ⟨a0,HB⟩:=n_;(try clear hb))|((with_reducible refine amz (b:= .append) (xs:= #[.tmp 30, .tmp 31]) rfl ?_);at_builtin;refine Kd.bVz (Kd.int .u8) (w0:=w) w.heap.size rfl (.tmp 30) (.tmp 31) 34 5 (.int .u8 0) 1 rfl underlying34 info5 rfl (by decide) (by omega) (.slice none 0 0) ([] :List Int) l1 _ _ _ (fun _=>True) (fun _=>False) rfl rfl ((Kd.R_nil _ _ _ _ (fun _=>True))) (by repeat (first|exact (Kd.aMz N0.o HB.o)|(with_reducible refine Kd.cez ?_ _)|(with_reducible refine Kd.bEz ?_ _)|(with_reducible refine Kd.cpz ?_))) (fun _ _ h=>h) (fun _ h=>h.elim) (fun _ _=>trivial) bl_ (adz bl_) (by have:=v0.o;omega) ?_;intro Q0 Z0 ho hb hg hat;rw [<-E0.o] at ho;have n_:=Zb (Za (cQz (g:=c0) (o:= .cells #[.int .i64 f0, .int .i64 d0, .int .i64 e0] 23 (0,0)) bk_ hg (by simp [Value.ownBlock]))) (Zb (Za (hb)) (Za (ho)));clear a0 HB;obtain ⟨a0,HB,B0⟩:=n_;clear ho hb hg hat))
  go_ret;exact ⟨_,er_,xd_ B0.o,bl_⟩
 rw [Ya c4] at H;have H0:(g0==98)=true:=Ye c4;have L0:(g0 !=98)=false:=Yc c4;clear c4;obtain ⟨o0,h0⟩: ∃y_:List Int,y_=(([(Int.tmod (wrap64 ((l1.length:Int) / 16777216)) 256) % 256,(Int.tmod (wrap64 ((l1.length:Int) / 65536)) 256) % 256,(Int.tmod (wrap64 ((l1.length:Int) / 256)) 256) % 256,(l1.length:Int) % 256] :List Int)):=⟨_,rfl⟩
 first|rw [Zl, <-h0] at H|rw [<-h0] at H
 (try dsimp only at H)
 have q0:=Za h0;clear h0;obtain ⟨J0,H⟩:=ij_ H;obtain ⟨z0,i0⟩: ∃y_:List Int,y_=(([] :List Int)++o0):=⟨_,rfl⟩
 first|rw [Zl, <-i0] at H|rw [<-i0] at H
 (try dsimp only at H)
 have C0:=Za i0;clear i0;obtain ⟨K0,H⟩:=ij_ H;obtain ⟨W0,k0⟩: ∃y_:List Int,y_=(z0++l1):=⟨_,rfl⟩
 first|rw [Zl, <-k0] at H|rw [<-k0] at H
 (try dsimp only at H)
 have F0:=Za k0;clear k0;obtain rfl:=Zn H;go_enter func92,ntmps92
 go_wp2_with (first|((with_reducible refine aTz (N:=2) rfl ?_);refine bx_ 2 #[.int .i64 f0, .int .i64 d0, .int .i64 e0] 23 ?_;intro c0 hg w7 l0 hb;have n_:=Zb (hs_ HB hb) (Zb (Za (l0)) (Zb (ag_ HB c0) (ag_ HB c0)));clear HB;obtain ⟨HB,a0,D0,u0⟩:=n_;clear hb l0 hg;obtain ⟨_,_,_,_,_,_⟩:=bc3_ a0.o)|((with_reducible refine aaz (f:=136) rfl ?_);refine gl_ (some 10) func136 #[.agg #[.int .i64 f0, .int .i64 d0, .int .i64 e0]] ?_;(with_reducible refine (btz.calls f0 d0 e0 g0 _ A3.o).mono ?_);rintro e w9 ⟨rfl,hb⟩;refine ⟨_,rfl,?_⟩;have n_:=Zb (bb_ a0 hb) (hs_ HB hb);clear a0 HB;obtain ⟨a0,HB⟩:=n_;(try clear hb))|((with_reducible refine aTz (N:=28) rfl ?_);refine Kd.R_lit (Kd.int .u8) _ 5 ?hg (N:=28) ?hd (xs:=([(Int.tmod (wrap64 ((l1.length:Int) / 16777216)) 256) % 256,(Int.tmod (wrap64 ((l1.length:Int) / 65536)) 256) % 256,(Int.tmod (wrap64 ((l1.length:Int) / 256)) 256) % 256,(l1.length:Int) % 256] :List Int)) (inner:= [.int .u8 ((Int.tmod (wrap64 ((l1.length:Int) / 16777216)) 256) % 256), .int .u8 ((Int.tmod (wrap64 ((l1.length:Int) / 65536)) 256) % 256), .int .u8 ((Int.tmod (wrap64 ((l1.length:Int) / 256)) 256) % 256), .int .u8 ((l1.length:Int) % 256)]) (ok:=fun _=>True) (okp:=fun _=>True) ?hr ?hp (fun _ hk=>hk) trivial (Zw _ _) (Zv _) (by simp) ?_;(case hd=>rfl);(case hg=>rfl);(case hr=>first|(go_simp;done)|(go_simp;rfl));(case hp=>exact (Reps.one (show Kd.M (Kd.int .u8) _ _ _ ((Int.tmod (wrap64 ((l1.length:Int) / 16777216)) 256) % 256) [.int .u8 ((Int.tmod (wrap64 ((l1.length:Int) / 16777216)) 256) % 256)] from rfl) (Reps.one (show Kd.M (Kd.int .u8) _ _ _ ((Int.tmod (wrap64 ((l1.length:Int) / 65536)) 256) % 256) [.int .u8 ((Int.tmod (wrap64 ((l1.length:Int) / 65536)) 256) % 256)] from rfl) (Reps.one (show Kd.M (Kd.int .u8) _ _ _ ((Int.tmod (wrap64 ((l1.length:Int) / 256)) 256) % 256) [.int .u8 ((Int.tmod (wrap64 ((l1.length:Int) / 256)) 256) % 256)] from rfl) (Reps.one (show Kd.M (Kd.int .u8) _ _ _ ((l1.length:Int) % 256) [.int .u8 ((l1.length:Int) % 256)] from rfl) (Reps.none _ _))))));intro R0 d1 n0 hb U0 A0;clear U0 A0;(first|rw [<-q0.o] at n0|(simp only [Int.reduceToNat] at n0;rw [<-q0.o] at n0));have n_:=Zb (Za (Kd.bCz n0 (adz bl_))) (Zb (bb_ a0 hb) (hs_ HB hb));clear a0 HB;obtain ⟨b0,a0,HB⟩:=n_;clear hb n0;obtain ⟨t0,r0,G0⟩:=Kd.aQz b0.o;subst G0)|((with_reducible refine amz (b:= .append) (xs:= #[.tmp 12, .tmp 28]) rfl ?_);at_builtin;refine Kd.bVz (Kd.int .u8) (w0:=w) w.heap.size rfl (.tmp 12) (.tmp 28) 34 5 (.int .u8 0) 1 rfl underlying34 info5 rfl (by decide) (by omega) (.slice none 0 0) ([] :List Int) o0 _ _ _ (fun k_=>some k_≠(.slice t0 o0.length r0:Value).ownBlock) (fun _=>False) rfl rfl ((Kd.R_nil _ _ _ _ (fun k_=>some k_≠(.slice t0 o0.length r0:Value).ownBlock))) (by repeat (first|exact (Kd.aHz b0.o).2.2|(with_reducible refine Kd.cez ?_ _)|(with_reducible refine Kd.bEz ?_ _)|(with_reducible refine Kd.cpz ?_))) (fun _ _ h=>h) (fun _ h=>h.elim) (fun k_ hk=>Kd.fresh' (Kd.R_lt (xd_ b0.o)) k_ hk) bl_ (adz bl_) (by have:=J0.o;omega) ?_;intro I0 X0 ho hb hg hat;rw [<-C0.o] at ho;have n_:=Zb (Za (cQz (g:=c0) (o:= .cells #[.int .i64 f0, .int .i64 d0, .int .i64 e0] 23 (0,0)) bk_ hg (by simp [Value.ownBlock]))) (Zb (Za (Kd.d5z (Kd.R_apart_nil (xd_ b0.o)) hg hat)) (Zb (Za (hb)) (Za (ho))));clear a0 b0 HB;obtain ⟨a0,b0,HB,p0⟩:=n_;clear ho hb hg hat)|((with_reducible refine amz (b:= .append) (xs:= #[.tmp 30, .tmp 31]) rfl ?_);at_builtin;refine Kd.bVz (Kd.int .u8) (w0:=w) w.heap.size rfl (.tmp 30) (.tmp 31) 34 5 (.int .u8 0) 1 rfl underlying34 info5 rfl (by decide) (by omega) I0 z0 l1 _ _ _ (fun k_=>some k_≠(.slice t0 o0.length r0:Value).ownBlock) (fun _=>False) rfl rfl (xd_ p0.o) (by repeat (first|exact (Kd.aMz N0.o HB.o)|(with_reducible refine Kd.cez ?_ _)|(with_reducible refine Kd.bEz ?_ _)|(with_reducible refine Kd.cpz ?_))) (fun _ _ h=>h) (fun _ h=>h.elim) (fun k_ hk=>Kd.fresh' (Kd.R_lt (xd_ b0.o)) k_ hk) bl_ (adz bl_) (by have:=K0.o;omega) ?_;intro V0 b1 ho hb hg hat;rw [<-F0.o] at ho;have n_:=Zb (Za (cQz (g:=c0) (o:= .cells #[.int .i64 f0, .int .i64 d0, .int .i64 e0] 23 (0,0)) bk_ hg (Kd.R_ne p0.o a0.o (by decide)))) (Zb (Za (Kd.d5z (ok:=(fun _=>True)) (xd_ b0.o) hg hat)) (Zb (Za (hb)) (Za (ho))));clear a0 b0 HB p0;obtain ⟨a0,b0,HB,y0⟩:=n_;clear ho hb hg hat))
 go_ret;exact ⟨_,er_,rm_ y0,bl_⟩
mutual
def aFz.l0:Nat->Int->List Int->List (List Int)->Int->Int->Int->Int->Option ((List (List Int))×Int)
 |0,_,_,_,_,_,_,_=>none
 |k+1,x6,x8,x9,x10,x536000,x536001,x536002=>if x10<x536001 then (aFz.l1 k x6 x8 x9 x10 ([] :List Int) 0 x536000 x536001 x536002) else (some (x9,0))
def aFz.l1:Nat->Int->List Int->List (List Int)->Int->List Int->Int->Int->Int->Int->Option ((List (List Int))×Int)
 |0,_,_,_,_,_,_,_,_,_=>none
 |k+1,x6,x8,x9,x10,x11,x12,x536000,x536001,x536002=>if x12<x6 then (if (wrap64 ((wrap64 (x10*x6))+x12))<(x8.length:Int) then (if 0<=(wrap64 ((wrap64 (x10*x6))+x12)) then (if x11.length<140737488355328 then (aFz.l1 k x6 x8 x9 x10 (x11++ [rd x8 (wrap64 ((wrap64 (x10*x6))+x12))]) (wrap64 (x12+1)) x536000 x536001 x536002) else (none)) else (none)) else (if x11.length<140737488355328 then (aFz.l1 k x6 x8 x9 x10 (x11++ [0]) (wrap64 (x12+1)) x536000 x536001 x536002) else (none))) else (if x9.length<5864062014805 then (aFz.l0 k x6 x8 (x9++ [x11]) (wrap64 (x10+1)) x536000 x536001 x536002) else (none))
end
def aFz.f (k:Nat) (a0_0 a0_1 a0_2:Int) (l1:List Int):Option ((List (List Int))×Int):=(aDz.f k a0_0 a0_1 a0_2 (l1.length:Int)).bind fun bt536=>(if bt536.2=0 then ((cmz.f a0_0 a0_1 a0_2 l1).bind fun t538=>(aFz.l0 k bt536.1 t538 ([] :List (List Int)) 0 a0_0 a0_1 a0_2)) else (some (([] :List (List Int)),bt536.2)))
theorem aFz.calls (k:Nat) (e0 d0 f0:Int) (A1:Option Addr) (c1:Nat) (l1:List Int) (r1:List (List Int)) (r2:Int) (w:World) (N1:Kd.C (Kd.int .u8) w A1 l1.length l1) (P1:l1.length<=c1) (h:aFz.f k e0 d0 f0 l1=some (r1,r2)):
  Calls prog 56 #[.agg #[.int .i64 e0, .int .i64 d0, .int .i64 f0], .slice A1 l1.length c1] w fun e w'=> ∃O1:Value,e= .returned (.tuple #[O1, .int .i64 r2])/\Kd.S (Kd.slice 5 (Kd.int .u8)) 34 w' w.heap.size (fun _=>True) O1 r1/\Below w.heap.size w w':=by
 have b2:=underlying23;have U1:=Za N1;have d2:=Za P1;clear N1 P1;have HB:=Za (Zw w.heap.size w);have H:=h;clear h;unfold aFz.f at H;obtain ⟨⟨o0,t0⟩,A3,H⟩:=ob_ H
 (try dsimp only at H)
 by_cases c4:t0=0
 rotate_left
 ·rw [Yb c4] at H;have B1:(t0==0)=false:=Zq c4;have y1:(t0 !=0)=true:=Yd c4;simp only [Zx,Zy] at H;obtain ⟨rfl,rfl⟩:=H;go_enter func56,ntmps56
  go_wp2_with (first|((with_reducible refine aTz (N:=2) rfl ?_);refine bx_ 2 #[.int .i64 e0, .int .i64 d0, .int .i64 f0] 23 ?_;intro k0 hg i2 A0 hb;have n_:=Zb (hs_ HB hb) (Zb (Za (A0)) (Zb (ag_ HB k0) (ag_ HB k0)));clear HB;obtain ⟨HB,a0,g1,o1⟩:=n_;clear hb A0 hg;obtain ⟨_,_,_,_,_,_⟩:=bc3_ a0.o)|((with_reducible refine aaz (f:=91) rfl ?_);refine gl_ (some 18) func91 #[.agg #[.int .i64 e0, .int .i64 d0, .int .i64 f0], .int .i64 (l1.length:Int)] ?_;(with_reducible refine (aDz.calls k e0 d0 f0 (l1.length:Int) o0 t0 _ A3.o).mono ?_);rintro e g2 ⟨rfl,hb⟩;refine ⟨_,rfl,?_⟩;have n_:=Zb (bb_ a0 hb) (hs_ HB hb);clear a0 HB;obtain ⟨a0,HB⟩:=n_;(try clear hb)))
  go_ret2;exact ⟨_,er_,nl_,bl_⟩
 rw [Ya c4] at H;have B1:(t0==0)=true:=Ye c4;have y1:(t0 !=0)=false:=Yc c4;clear c4;obtain ⟨n0,A5,H⟩:=ob_ H
 (try dsimp only at H)
 have H':=Za H;clear H;go_enter func56,ntmps56
 go_wp2_with (first|((with_reducible refine aTz (N:=2) rfl ?_);refine bx_ 2 #[.int .i64 e0, .int .i64 d0, .int .i64 f0] 23 ?_;intro k0 hg w6 A0 hb;have n_:=Zb (hs_ HB hb) (Zb (Za (A0)) (Zb (ag_ HB k0) (ag_ HB k0)));clear HB;obtain ⟨HB,a0,g1,o1⟩:=n_;clear hb A0 hg;obtain ⟨K0,P0,U0,T0,L0,S0⟩:=bc3_ a0.o)|((with_reducible refine aaz (f:=91) rfl ?_);refine gl_ (some 18) func91 #[.agg #[.int .i64 e0, .int .i64 d0, .int .i64 f0], .int .i64 (l1.length:Int)] ?_;(with_reducible refine (aDz.calls k e0 d0 f0 (l1.length:Int) o0 t0 _ A3.o).mono ?_);rintro e w8 ⟨rfl,hb⟩;refine ⟨_,rfl,?_⟩;have n_:=Zb (bb_ a0 hb) (hs_ HB hb);clear a0 HB;obtain ⟨a0,HB⟩:=n_;(try clear hb);obtain ⟨Q0,N0,V0,O0,R0,M0⟩:=bc3_ a0.o)|((with_reducible refine aaz (f:=92) rfl ?_);refine gl_ (some 26) func92 #[.agg #[.int .i64 e0, .int .i64 d0, .int .i64 f0], .slice A1 l1.length c1] ?_;(with_reducible refine (cmz.calls e0 d0 f0 _ _ l1 n0 _ (xd_ (Kd.aMz U1.o HB.o)) (d2.o) A5.o).mono ?_);rintro e e2 ⟨p0,rfl,Q1,hb⟩;refine ⟨_,rfl,?_⟩;have n_:=Zb (Za (Kd.bCz Q1 (adz bl_))) (Zb (bb_ a0 hb) (hs_ HB hb));clear a0 HB;obtain ⟨e1,a0,HB⟩:=n_;clear hb Q1))
 go_loopg [9,10] k (fun kq v9 W1 w'=> ∃(q0:List (List Int)) (h0:Int),W1= .int .i64 h0/\Aside0 (aFz.l0 kq o0 n0 q0 h0 e0 d0 f0=some (r1,r2))/\Aside0 (kq<=k)/\Aside0 (Kd.R (Kd.int .u8) 5 w' w.heap.size (fun _=>True) p0 n0)/\Aside0 (Kd.S (Kd.slice 5 (Kd.int .u8)) 34 w' w.heap.size (fun k_=>some k_≠(p0:Value).ownBlock) v9 q0)/\Aside0 (w'.heap[k0]?=some (.cells #[.int .i64 e0, .int .i64 d0, .int .i64 f0] 23 (0,0)))/\Aside0 (Below w.heap.size w w'))
 case atStart=>exact ⟨(([] :List (List Int))),(0),sd_,H',⟨Zv _⟩,⟨xd_ e1.o⟩,⟨nl_⟩,⟨bk_⟩,⟨bl_⟩⟩
 clear H';clear B1 y1 K0 U0 L0 Q0 V0 R0 P0 T0 S0 N0 O0 M0;obtain ⟨q0,h0,rfl,HA,a1,c0,g0,a0,HB⟩:=hrel;rcases gk with _|k1
 ·exact Yf HA.o (by simp [aFz.l0])
 have H:=HA.o;clear HA;simp only [aFz.l0] at H;by_cases W0:h0<d0
 rotate_left
 ·rw [Yb W0] at H;have I0:=Ze W0;clear W0;simp only [Zx,Zy] at H;obtain ⟨rfl,rfl⟩:=H;obtain ⟨_,_,_,_,_,_⟩:=bc3_ a0.o;go_wp2;go_ret2;exact ⟨_,er_,sm_ g0,bl_⟩
 rw [Ya W0] at H;have I0:=Zd W0;clear W0;have H':=Za H;clear H;obtain ⟨F0,B0,G0,C0,E0,D0⟩:=bc3_ a0.o;go_wp2
 go_loopg [11,12] k1 (fun kq G1 T1 w'=> ∃(b0:List Int) (i0:Int),T1= .int .i64 i0/\Aside0 (aFz.l1 kq o0 n0 q0 h0 b0 i0 e0 d0 f0=some (r1,r2))/\Aside0 (kq<=k1)/\Aside0 (Kd.R (Kd.int .u8) 5 w' w.heap.size (fun k_=>some k_≠(G1:Value).ownBlock) p0 n0)/\Aside0 (Kd.S (Kd.slice 5 (Kd.int .u8)) 34 w' w.heap.size (fun k_=>some k_≠(p0:Value).ownBlock/\some k_≠(G1:Value).ownBlock) u9 q0)/\Aside0 (Kd.R (Kd.int .u8) 5 w' w.heap.size (fun k_=>some k_≠(p0:Value).ownBlock) G1 b0)/\Aside0 (w'.heap[k0]?=some (.cells #[.int .i64 e0, .int .i64 d0, .int .i64 f0] 23 (0,0)))/\Aside0 (Below w.heap.size w w'))
 case atStart=>exact ⟨(([] :List Int)),(0),sd_,H',⟨Zv _⟩,⟨rm_ c0⟩,⟨sm_ g0⟩,⟨nl_⟩,⟨bk_⟩,⟨bl_⟩⟩
 clear H';clear I0 F0 G0 E0 B0 C0 D0;obtain ⟨b0,i0,rfl,HA,Y0,c0,g0,j0,a0,HB⟩:=hrel;rcases gk with _|k2
 ·exact Yf HA.o (by simp [aFz.l1])
 have H:=HA.o;clear HA;simp only [aFz.l1] at H;by_cases X0:i0<o0
 rotate_left
 ·rw [Yb X0] at H;have u1:=Ze X0;clear X0;obtain ⟨C1,H⟩:=ij_ H;obtain ⟨K1,u0⟩: ∃y_:List (List Int),y_=(q0++ [b0]):=⟨_,rfl⟩
  first|rw [Zl, <-u0] at H|rw [<-u0] at H
  (try dsimp only at H)
  have s1:=Za u0;clear u0;have H':=Za H;clear H;obtain ⟨d1,p1,E1⟩:=Kd.aQz j0.o;subst E1
  go_wp2_with (first|((with_reducible refine amz (b:= .append) (xs:= #[.tmp 58, .tmp 60]) rfl ?_);at_builtin;refine Kd.bLz (Kd.slice 5 (Kd.int .u8)) (w0:=w) w.heap.size rfl (.tmp 58) (.tmp 60) 24 34 (.slice none 0 0) 24 rfl underlying24 info34 rfl (by decide) (by omega) u9 q0 b0 [.slice d1 b0.length p1] (fun k_=>some k_≠(p0:Value).ownBlock) (fun k_=>some k_=(.slice d1 b0.length p1:Value).ownBlock) rfl rfl (Kd.M_row (Kd.aKz (Kd.b5z rfl (Kd.aKz (ok':=fun k_=>((fun k_=>some k_≠(p0:Value).ownBlock)) k_/\some k_≠(u9:Value).ownBlock) (Kd.bqz (j0.o) (Kd.bFz g0.o) (by decide)) (fun k_ hk=>⟨hk.1,hk.2⟩))) (fun _ h_=>h_))) (fun k_ V1=>((Kd.aKz (ok':=fun k_=>((fun k_=>some k_≠(p0:Value).ownBlock)) k_/\some k_≠(u9:Value).ownBlock) (Kd.bqz (j0.o) (Kd.bFz g0.o) (by decide)) (fun k_ hk=>⟨hk.1,hk.2⟩))).1 k_ V1.symm) (fun k_ hk=>Kd.fresh' (Kd.R_lt (xd_ c0.o)) k_ hk) (sm_ g0) bl_ (adz bl_) (by have:=C1.o;omega) ?_;intro Y1 l2 ho hb hg hat;rw [<-s1.o] at ho;have n_:=Zb (Za (Kd.R_over' (xd_ c0.o) (Kd.bFz (xd_ g0.o)) (by decide) hg)) (Zb (Za (cQz (g:=k0) (o:= .cells #[.int .i64 e0, .int .i64 d0, .int .i64 f0] 23 (0,0)) bk_ hg (Kd.S_ne g0.o a0.o (by decide)))) (Zb (Za (hb)) (Za (ho))));clear c0 a0 HB g0 j0;obtain ⟨c0,a0,HB,t1⟩:=n_;clear ho hb hg hat))
  go_roundg k2
  case measure=>have:=a1.o;have:=Y0.o;omega
  case rel=>exact ⟨(K1),(wrap64 (h0+1)),sd_,H',⟨by have:=a1.o;have:=Y0.o;omega⟩,⟨rm_ c0⟩,⟨xd_ t1.o⟩,⟨bk_⟩,⟨bl_⟩⟩
 rw [Ya X0] at H;have u1:=Zd X0;clear X0;by_cases Z0:(wrap64 ((wrap64 (h0*o0))+i0))<(n0.length:Int)
 rotate_left
 ·rw [Yb Z0] at H;have H0:=Ze Z0;clear Z0;obtain ⟨z1,H⟩:=ij_ H;obtain ⟨M1,y0⟩: ∃y_:List Int,y_=(b0++ [0]):=⟨_,rfl⟩
  first|rw [Zl, <-y0] at H|rw [<-y0] at H
  (try dsimp only at H)
  have n1:=Za y0;clear y0;have H':=Za H;clear H;obtain ⟨i1,m1,J1⟩:=Kd.aQz c0.o;subst J1
  go_wp2_with (first|((with_reducible refine amz (b:= .append) (xs:= #[.tmp 54, .tmp 56]) rfl ?_);at_builtin;refine Kd.brz (Kd.int .u8) (w0:=w) w.heap.size rfl (.tmp 54) (.tmp 56) 34 5 (.int .u8 0) 1 rfl underlying34 info5 rfl (by decide) (by omega) u11 b0 0 [.int .u8 0] (fun k_=>some k_≠(.slice i1 n0.length m1:Value).ownBlock) (fun _=>False) rfl rfl rfl (fun _ hk=>hk.elim) (fun k_ hk=>Kd.fresh' (Kd.R_lt (xd_ c0.o)) k_ hk) (xd_ j0.o) bl_ (adz bl_) (by have:=z1.o;omega) ?_;intro a2 f2 ho hb hg hat;rw [<-n1.o] at ho;have n_:=Zb (Za (Kd.d5z (ok:=(fun _=>True)) (rm_ c0) hg hat)) (Zb (Za (Kd.cFz (ok:=(fun k_=>some k_≠(.slice i1 n0.length m1:Value).ownBlock)) (xd_ g0.o) hg hat)) (Zb (Za (cQz (g:=k0) (o:= .cells #[.int .i64 e0, .int .i64 d0, .int .i64 f0] 23 (0,0)) bk_ hg (Kd.R_ne j0.o a0.o (by decide)))) (Zb (Za (hb)) (Za (ho)))));clear c0 g0 a0 HB j0;obtain ⟨c0,g0,a0,HB,b1⟩:=n_;clear ho hb hg hat))
  go_roundg k2
  case measure=>have:=a1.o;have:=Y0.o;omega
  case rel=>exact ⟨(M1),(wrap64 (i0+1)),sd_,H',⟨by have:=a1.o;have:=Y0.o;omega⟩,⟨rm_ c0⟩,⟨xd_ g0.o⟩,⟨xd_ b1.o⟩,⟨bk_⟩,⟨bl_⟩⟩
 rw [Ya Z0] at H;have H0:=Zd Z0;clear Z0;obtain ⟨r0,v0⟩: ∃j_:Int,(wrap64 ((wrap64 (h0*o0))+i0))=j_:=⟨_,rfl⟩
 replace H:(if 0<=(r0) then (if b0.length<140737488355328 then (aFz.l1 k2 o0 n0 q0 h0 (b0++ [rd n0 (r0)]) (wrap64 (i0+1)) e0 d0 f0) else (none)) else (none))=some (r1,r2):=by first|(rw [v0] at H;exact H)|(simp only [v0] at H|-;exact H)
 (try rw [v0] at H0)
 have H1:(IntKind.i64.wrap ((wrap64 (h0*o0))+i0))=r0:=(i64_w _).trans v0;obtain ⟨R1,H⟩:=ih_ H;obtain ⟨q1,H⟩:=ij_ H;obtain ⟨I1,z0⟩: ∃y_:List Int,y_=(b0++ [rd n0 (r0)]):=⟨_,rfl⟩
 first|rw [Zl, <-z0] at H|rw [<-z0] at H
 (try dsimp only at H)
 have j1:=Za z0;clear z0;have H':=Za H;clear H;obtain ⟨c2,f1,L1⟩:=Kd.aQz c0.o;subst L1;obtain ⟨J0,F1,D1,Z1,S1⟩:=ix_ (Kd.aHz c0.o).2.2 (r0) as_ as_;cases F1
 go_wp2_with (first|((with_reducible refine amz (b:= .append) (xs:= #[.tmp 54, .tmp 56]) rfl ?_);at_builtin;refine Kd.brz (Kd.int .u8) (w0:=w) w.heap.size rfl (.tmp 54) (.tmp 56) 34 5 (.int .u8 0) 1 rfl underlying34 info5 rfl (by decide) (by omega) u11 b0 (rd n0 (r0)) [.int .u8 (rd n0 (r0))] (fun k_=>some k_≠(.slice (some J0) n0.length f1:Value).ownBlock) (fun _=>False) rfl rfl rfl (fun _ hk=>hk.elim) (fun k_ hk=>Kd.fresh' (Kd.R_lt (xd_ c0.o)) k_ hk) (xd_ j0.o) bl_ (adz bl_) (by have:=q1.o;omega) ?_;intro X1 j2 ho hb hg hat;rw [<-j1.o] at ho;have n_:=Zb (Za (Kd.d5z (ok:=(fun _=>True)) (rm_ c0) hg hat)) (Zb (Za (Kd.cFz (ok:=(fun k_=>some k_≠(.slice (some J0) n0.length f1:Value).ownBlock)) (xd_ g0.o) hg hat)) (Zb (Za (cQz (g:=k0) (o:= .cells #[.int .i64 e0, .int .i64 d0, .int .i64 f0] 23 (0,0)) bk_ hg (Kd.R_ne j0.o a0.o (by decide)))) (Zb (Za (hb)) (Za (ho)))));clear c0 g0 a0 HB j0;obtain ⟨c0,g0,a0,HB,v1⟩:=n_;clear ho hb hg hat))
 go_roundg k2
 case measure=>have:=a1.o;have:=Y0.o;omega
 case rel=>exact ⟨(I1),(wrap64 (i0+1)),sd_,H',⟨by have:=a1.o;have:=Y0.o;omega⟩,⟨rm_ c0⟩,⟨xd_ g0.o⟩,⟨xd_ v1.o⟩,⟨bk_⟩,⟨bl_⟩⟩
def b9z.f (k:Nat) (a0_0 a0_1 a0_2:Int) (l1:List Int):Option ((List (List Int))×Int):=(aFz.f k a0_0 a0_1 a0_2 l1).bind fun bt552=>(if bt552.2=0 then ((aqz.f k a0_0 a0_1 a0_2 bt552.1).bind fun bt556=>((some (([] :List (List Int)):List (List Int))).bind fun y560=>(if y560.length+bt552.1.length<5864062014805 then ((some (y560++bt552.1:List (List Int))).bind fun y563=>(if y563.length+bt556.1.length<5864062014805 then (some ((y563++bt556.1),0)) else (none))) else (none)))) else (some (([] :List (List Int)),bt552.2)))
theorem b9z.calls (k:Nat) (g0 e0 f0:Int) (A1:Option Addr) (c1:Nat) (l1:List Int) (r1:List (List Int)) (r2:Int) (w:World) (Z0:Kd.C (Kd.int .u8) w A1 l1.length l1) (Y0:l1.length<=c1) (h:b9z.f k g0 e0 f0 l1=some (r1,r2)):
  Calls prog 25 #[.agg #[.int .i64 g0, .int .i64 e0, .int .i64 f0], .slice A1 l1.length c1] w fun e w'=> ∃V0:Value,e= .returned (.tuple #[V0, .int .i64 r2])/\Kd.N (Kd.slice 5 (Kd.int .u8)) 34 w' w.heap.size (fun k_=>(w.heap.size<=k_)) V0 r1/\Below w.heap.size w w':=by
 have b1:=underlying23;have W0:=Za Z0;have X0:=Za Y0;clear Z0 Y0;have HB:=Za (Zw w.heap.size w);have H:=h;clear h;unfold b9z.f at H;obtain ⟨⟨h0,l0⟩,A3,H⟩:=ob_ H
 (try dsimp only at H)
 by_cases c4:l0=0
 rotate_left
 ·rw [Yb c4] at H;have P0:(l0==0)=false:=Zq c4;have U0:(l0 !=0)=true:=Yd c4;simp only [Zx,Zy] at H;obtain ⟨rfl,rfl⟩:=H;go_enter func25,ntmps25
  go_wp2_with (first|((with_reducible refine aTz (N:=2) rfl ?_);refine bx_ 2 #[.int .i64 g0, .int .i64 e0, .int .i64 f0] 23 ?_;intro a0 hg j1 u0 hb;have n_:=Zb (hs_ HB hb) (Zb (Za (u0)) (Zb (ag_ HB a0) (ag_ HB a0)));clear HB;obtain ⟨HB,b0,J0,E0⟩:=n_;clear hb u0 hg;obtain ⟨_,_,_,_,_,_⟩:=bc3_ b0.o)|((with_reducible refine aaz (f:=56) rfl ?_);refine gl_ (some 14) func56 #[.agg #[.int .i64 g0, .int .i64 e0, .int .i64 f0], .slice A1 l1.length c1] ?_;(with_reducible refine (aFz.calls k g0 e0 f0 _ _ l1 h0 l0 _ (xd_ (Kd.aMz W0.o HB.o)) (X0.o) A3.o).mono ?_);rintro e g1 ⟨S0,rfl,z0,hb⟩;refine ⟨_,rfl,?_⟩;have n_:=Zb (Za (Kd.bXz (Kd.b2z (ok':=fun k_=>(w.heap.size<=k_)/\k_≠a0) (Kd.S_N (Kd.bDz z0)) (fun k_ v0=>⟨(Zt (adz bl_) v0.2.1),(Kd.freshB (g:=a0) (o:= .cells #[.int .i64 g0, .int .i64 e0, .int .i64 f0] 23 (0,0)) bk_ k_ v0.2.1)⟩)) (adz bl_))) (Zb (bb_ b0 hb) (hs_ HB hb));clear b0 HB;obtain ⟨c0,b0,HB⟩:=n_;clear hb z0))
  go_ret2;exact ⟨_,er_,nl_,bl_⟩
 rw [Ya c4] at H;have P0:(l0==0)=true:=Ye c4;have U0:(l0 !=0)=false:=Yc c4;clear c4;obtain ⟨⟨y0,T0⟩,A5,H⟩:=ob_ H
 (try dsimp only at H)
 obtain ⟨H0,p0⟩: ∃y_:List (List Int),y_=(([] :List (List Int))):=⟨_,rfl⟩
 first|rw [Zl, <-p0] at H|rw [<-p0] at H
 (try dsimp only at H)
 have A0:=Za p0;clear p0;obtain ⟨Q0,H⟩:=ij_ H;obtain ⟨F0,o0⟩: ∃y_:List (List Int),y_=(H0++h0):=⟨_,rfl⟩
 first|rw [Zl, <-o0] at H|rw [<-o0] at H
 (try dsimp only at H)
 have D0:=Za o0;clear o0;obtain ⟨N0,H⟩:=ij_ H;obtain ⟨f1,q0⟩: ∃y_:List (List Int),y_=(F0++y0):=⟨_,rfl⟩
 first|rw [Zl, <-q0] at H|rw [<-q0] at H
 (try dsimp only at H)
 have K0:=Za q0;clear q0;simp only [Zx,Zy] at H;obtain ⟨rfl,rfl⟩:=H;go_enter func25,ntmps25
 go_wp2_with (first|((with_reducible refine aTz (N:=2) rfl ?_);refine bx_ 2 #[.int .i64 g0, .int .i64 e0, .int .i64 f0] 23 ?_;intro a0 hg w8 u0 hb;have n_:=Zb (hs_ HB hb) (Zb (Za (u0)) (Zb (ag_ HB a0) (ag_ HB a0)));clear HB;obtain ⟨HB,b0,J0,E0⟩:=n_;clear hb u0 hg;obtain ⟨_,_,_,_,_,_⟩:=bc3_ b0.o)|((with_reducible refine aaz (f:=56) rfl ?_);refine gl_ (some 14) func56 #[.agg #[.int .i64 g0, .int .i64 e0, .int .i64 f0], .slice A1 l1.length c1] ?_;(with_reducible refine (aFz.calls k g0 e0 f0 _ _ l1 h0 l0 _ (xd_ (Kd.aMz W0.o HB.o)) (X0.o) A3.o).mono ?_);rintro e n1 ⟨S0,rfl,z0,hb⟩;refine ⟨_,rfl,?_⟩;have n_:=Zb (Za (Kd.bXz (Kd.b2z (ok':=fun k_=>(w.heap.size<=k_)/\k_≠a0) (Kd.S_N (Kd.bDz z0)) (fun k_ v0=>⟨(Zt (adz bl_) v0.2.1),(Kd.freshB (g:=a0) (o:= .cells #[.int .i64 g0, .int .i64 e0, .int .i64 f0] 23 (0,0)) bk_ k_ v0.2.1)⟩)) (adz bl_))) (Zb (bb_ b0 hb) (hs_ HB hb));clear b0 HB;obtain ⟨c0,b0,HB⟩:=n_;clear hb z0;obtain ⟨_,_,_,_,_,_⟩:=bc3_ b0.o;obtain ⟨k0,j0,M0⟩:=Kd.czz c0.o;subst M0)|((with_reducible refine aaz (f:=20) rfl ?_);refine gl_ (some 23) func20 #[.agg #[.int .i64 g0, .int .i64 e0, .int .i64 f0], .slice k0 h0.length j0] ?_;(with_reducible refine (aqz.calls k g0 e0 f0 _ _ h0 y0 T0 _ (xd_ (Kd.bpz c0.o).2.2) ((Kd.bpz c0.o).2.1) A5.o).mono ?_);rintro e a1 ⟨i0,rfl,z0,hb⟩;refine ⟨_,rfl,?_⟩;have n_:=Zb (Za (Kd.bYz (xd_ c0.o) (Kd.dez z0) hb)) (Zb (Za (Kd.bXz (Kd.b2z (ok':=fun k_=>(w.heap.size<=k_)/\some k_≠(.slice k0 h0.length j0:Value).ownBlock/\k_≠a0) (Kd.S_N (Kd.bDz z0)) (fun k_ v0=>⟨(Zt (adz bl_) v0.2.1),(Kd.fresh' (Kd.N_lt (xd_ c0.o)) k_ v0.2.1),(Kd.freshB (g:=a0) (o:= .cells #[.int .i64 g0, .int .i64 e0, .int .i64 f0] 23 (0,0)) bk_ k_ v0.2.1)⟩)) (adz bl_))) (Zb (bb_ b0 hb) (hs_ HB hb)));clear c0 b0 HB;obtain ⟨c0,d0,b0,HB⟩:=n_;clear hb z0)|((with_reducible refine aTz (N:=26) rfl ?_);refine Kd.N_lit (Kd.slice 5 (Kd.int .u8)) _ 34 ?hg (N':=26) ?hd (xs:=([] :List (List Int))) (inner:= []) (ok:=(fun k_=>(w.heap.size<=k_)/\some k_≠(.slice k0 h0.length j0:Value).ownBlock/\some k_≠(i0:Value).ownBlock/\k_≠a0)) (okp:=(fun k_=>(w.heap.size<=k_)/\some k_≠(.slice k0 h0.length j0:Value).ownBlock/\some k_≠(i0:Value).ownBlock/\k_≠a0)) ?hr ?hp (fun _ hk=>hk) ((show∀k_,a1.heap.size<=k_->(fun k_=>(w.heap.size<=k_)/\some k_≠(.slice k0 h0.length j0:Value).ownBlock/\some k_≠(i0:Value).ownBlock/\k_≠a0) k_ from fun k_ hk=>⟨(Zt (adz bl_) hk),Kd.fresh' (Kd.N_lt (xd_ c0.o)) k_ hk,Kd.fresh' (Kd.N_lt (xd_ d0.o)) k_ hk,Kd.freshB (g:=a0) (o:= .cells #[.int .i64 g0, .int .i64 e0, .int .i64 f0] 23 (0,0)) bk_ k_ hk⟩) _ (Zv _)) (Zw _ _) (Zv _) (by simp) ?_;(case hd=>rfl);(case hg=>rfl);(case hr=>first|(go_simp;done)|(go_simp;rfl));(case hp=>exact (Reps.none _ _));intro C0 m1 n0 hb e1 G0;clear e1 G0;(first|rw [<-A0.o] at n0|(simp only [Int.reduceToNat] at n0;rw [<-A0.o] at n0));have n_:=Zb (Za (Kd.bYz (xd_ c0.o) (Kd.dfz n0) hb)) (Zb (Za (Kd.bYz (xd_ d0.o) (Kd.dfz n0) hb)) (Zb (Za (Kd.bXz n0 (adz bl_))) (Zb (bb_ b0 hb) (hs_ HB hb))));clear c0 d0 b0 HB;obtain ⟨c0,d0,t0,b0,HB⟩:=n_;clear hb n0)|((with_reducible refine amz (b:= .append) (xs:= #[.tmp 26, .tmp 27]) rfl ?_);at_builtin;refine Kd.dJz (Kd.slice 5 (Kd.int .u8)) (w0:=w) w.heap.size rfl (.tmp 26) (.tmp 27) 24 34 (.slice none 0 0) 24 rfl underlying24 info34 rfl (by decide) (by omega) C0 H0 h0 _ _ _ (fun k_=>(w.heap.size<=k_)/\some k_≠(i0:Value).ownBlock/\k_≠a0) (fun k_=>((fun k_=>(w.heap.size<=k_)/\some k_≠(i0:Value).ownBlock/\k_≠a0)) k_/\some k_≠(C0:Value).ownBlock) rfl rfl (nm_ t0) (by exact (by skip;exact Kd.N_F (Kd.b2z (ok':=(fun k_=>((fun k_=>(w.heap.size<=k_)/\some k_≠(i0:Value).ownBlock/\k_≠a0)) k_/\some k_≠(C0:Value).ownBlock)) (c0.o) (fun k_ hk=>⟨⟨hk.1.1.1,⟨hk.1.2,hk.1.1.2⟩⟩,hk.2⟩)))) (fun _ hk=>hk) (fun k_ hk=>⟨(Zt (adz bl_) hk),Kd.fresh' (Kd.N_lt (xd_ d0.o)) k_ hk,Kd.freshB (g:=a0) (o:= .cells #[.int .i64 g0, .int .i64 e0, .int .i64 f0] 23 (0,0)) bk_ k_ hk⟩) bl_ (adz bl_) (by have:=Q0.o;omega) ?_;intro B0 k1 ho hb hg hat;rw [<-D0.o] at ho;have n_:=Zb (Za (cQz (g:=a0) (o:= .cells #[.int .i64 g0, .int .i64 e0, .int .i64 f0] 23 (0,0)) bk_ hg (Kd.N_ne t0.o b0.o (by decide)))) (Zb (Za (Kd.crz (ok:=(fun k_=>(w.heap.size<=k_)/\some k_≠(i0:Value).ownBlock/\k_≠a0)) (nm_ c0) hg hat)) (Zb (Za (Kd.crz (ok:=(fun k_=>(w.heap.size<=k_)/\some k_≠(.slice k0 h0.length j0:Value).ownBlock/\k_≠a0)) (xd_ d0.o) hg hat)) (Zb (Za (hb)) (Za (ho)))));clear b0 c0 d0 HB t0;obtain ⟨b0,c0,d0,HB,r0⟩:=n_;clear ho hb hg hat;obtain ⟨R0,O0,L0⟩:=Kd.czz d0.o;subst L0)|((with_reducible refine amz (b:= .append) (xs:= #[.tmp 29, .tmp 30]) rfl ?_);at_builtin;refine Kd.dJz (Kd.slice 5 (Kd.int .u8)) (w0:=w) w.heap.size rfl (.tmp 29) (.tmp 30) 24 34 (.slice none 0 0) 24 rfl underlying24 info34 rfl (by decide) (by omega) B0 F0 y0 _ _ _ (fun k_=>(w.heap.size<=k_)/\k_≠a0) (fun k_=>((fun k_=>(w.heap.size<=k_)/\k_≠a0)) k_/\some k_≠(B0:Value).ownBlock) rfl rfl (nm_ r0) (by exact (by skip;exact Kd.N_F (Kd.b2z (ok':=(fun k_=>((fun k_=>(w.heap.size<=k_)/\k_≠a0)) k_/\some k_≠(B0:Value).ownBlock)) (d0.o) (fun k_ hk=>⟨⟨hk.1.1,hk.1.2.2⟩,hk.2⟩)))) (fun _ hk=>hk) (fun k_ hk=>⟨(Zt (adz bl_) hk),Kd.freshB (g:=a0) (o:= .cells #[.int .i64 g0, .int .i64 e0, .int .i64 f0] 23 (0,0)) bk_ k_ hk⟩) bl_ (adz bl_) (by have:=N0.o;omega) ?_;intro d1 i1 ho hb hg hat;rw [<-K0.o] at ho;have n_:=Zb (Za (cQz (g:=a0) (o:= .cells #[.int .i64 g0, .int .i64 e0, .int .i64 f0] 23 (0,0)) bk_ hg (Kd.N_ne r0.o b0.o (by decide)))) (Zb (Za (Kd.crz (ok:=(fun k_=>(w.heap.size<=k_)/\some k_≠(.slice R0 y0.length O0:Value).ownBlock/\k_≠a0)) (xd_ c0.o) hg hat)) (Zb (Za (Kd.crz (ok:=(fun k_=>(w.heap.size<=k_)/\some k_≠(.slice k0 h0.length j0:Value).ownBlock/\k_≠a0)) (xd_ d0.o) hg hat)) (Zb (Za (hb)) (Za (ho)))));clear b0 c0 d0 HB r0;obtain ⟨b0,c0,d0,HB,I0⟩:=n_;clear ho hb hg hat))
 go_ret2;exact ⟨_,er_,nm_ I0,bl_⟩
def cnz.f (a0_0 a0_1:Int) (a0_2:Int):Option (Int×Int×Int):=(aSz.f (wrap64 (1+(Int.tmod (wrap64 (a0_0)) 6)))).bind fun bt773=>(if bt773.2.2.2.2.1=0 then (none) else (some (wrap64 (1+(Int.tmod (wrap64 (a0_0)) 6)),wrap64 (1+(Int.tmod (wrap64 (a0_1)) 8)),wrap64 (1+(Int.tmod (wrap64 (a0_2)) bt773.2.2.2.2.1)))))
theorem cnz.calls (h0 q0 A0 r1 r2 r3:Int) (w:World) (h:cnz.f h0 q0 A0=some (r1,r2,r3)):
  Calls prog 31 #[.agg #[.int .u8 h0, .int .u8 q0, .int .u8 A0]] w fun e w'=>e= .returned (.agg #[.int .i64 r1, .int .i64 r2, .int .i64 r3])/\Below w.heap.size w w':=by
 have Z0:=underlying42;have b1:=underlying23;have f1:=underlying79;have HB:=Za (Zw w.heap.size w);have H:=h;clear h;unfold cnz.f at H;obtain ⟨⟨D0,C0,G0,E0,y0,F0⟩,A2,H⟩:=ob_ H
 (try dsimp only at H)
 by_cases c3:y0=0
 ·rw [Ya c3] at H;exact Yf H (by simp)
 ·rw [Yb c3] at H;have X0:(y0==0)=false:=Zq c3;have a1:(y0 !=0)=true:=Yd c3;simp only [Zx,Zy] at H;obtain ⟨rfl,rfl,rfl⟩:=H;go_enter func31,ntmps31
  go_wp2_with (first|((with_reducible refine aTz (N:=1) rfl ?_);refine bx_ 1 #[.int .u8 h0, .int .u8 q0, .int .u8 A0] 42 ?_;intro z0 hg w4 e0 hb;have n_:=Zb (hs_ HB hb) (Zb (Za (e0)) (Zb (ag_ HB z0) (ag_ HB z0)));clear HB;obtain ⟨HB,a0,Q0,H0⟩:=n_;clear hb e0 hg)|((with_reducible refine aTz (N:=2) rfl ?_);refine bx_ 2 #[.int .i64 0, .int .i64 0, .int .i64 0] 23 ?_;intro g0 hg w5 e0 hb;have n_:=Zb (bb_ a0 hb) (Zb (hs_ HB hb) (Zb (Za (e0)) (Zb (ag_ HB g0) (Zb (ag_ HB g0) (Zb (n1_ a0 g0) (n2_ a0 g0))))));clear a0 HB;obtain ⟨a0,HB,b0,L0,U0,k0,j0⟩:=n_;clear hb e0 hg;have Y0:=k0.o;have e1:=j0.o;obtain ⟨_,_,_,_,_,_⟩:=bc3_ a0.o)|((with_reducible refine aTz (N:=3) rfl ?_);refine bx_ 3 #[.int .i64 0, .int .i64 0, .int .i64 0] 23 ?_;intro f0 hg w8 e0 hb;have n_:=Zb (bb_ a0 hb) (Zb (bb_ b0 hb) (Zb (hs_ HB hb) (Zb (Za (e0)) (Zb (ag_ HB f0) (Zb (ag_ HB f0) (Zb (n1_ a0 f0) (Zb (n2_ a0 f0) (Zb (n1_ b0 f0) (n2_ b0 f0)))))))));clear a0 b0 HB;obtain ⟨a0,b0,HB,c0,I0,S0,o0,l0,i0,p0⟩:=n_;clear hb e0 hg;have d1:=l0.o;have c1:=o0.o;have N0:=p0.o;have J0:=i0.o;obtain ⟨_,_,_,_,_,_⟩:=bc3_ c0.o)|((with_reducible refine aaz (f:=50) rfl ?_);refine gl_ (some 20) func50 #[.int .i64 (wrap64 (1+(Int.tmod (wrap64 (h0)) 6)))] ?_;(with_reducible refine (aSz.calls (wrap64 (1+(Int.tmod (wrap64 (h0)) 6))) D0 C0 G0 E0 y0 F0 _ A2.o).mono ?_);rintro e i1 ⟨rfl,hb⟩;refine ⟨_,rfl,?_⟩;have n_:=Zb (Za (aNz (g:=z0) (o:= .cells #[.int .u8 h0, .int .u8 q0, .int .u8 A0] 42 (0,0)) kb_ hb)) (Zb (Za (aNz (g:=g0) (o:= .cells #[.int .i64 0, .int .i64 0, .int .i64 0] 23 (0,0)) kb_ hb)) (Zb (Za (aNz (g:=f0) (o:= .cells #[.int .i64 (wrap64 (1+(Int.tmod (wrap64 (h0)) 6))), .int .i64 (wrap64 (1+(Int.tmod (wrap64 (q0)) 8))), .int .i64 0] 23 (0,0)) kb_ hb)) (hs_ HB hb)));clear a0 b0 c0 HB;obtain ⟨a0,b0,c0,HB⟩:=n_;(try clear hb))|((with_reducible refine aTz (N:=4) rfl ?_);refine cgz ?hg (N:=4) ?hd (cs:= #[.string (⟨#[]⟩:ByteArray), .int .i64 0, .int .u32 0, .int .u8 0, .int .i64 0]) (t:=79) ?hr ?_;(case hd=>rfl);(case hg=>rfl);(case hr=>first|(go_simp;done)|(go_simp;rfl));intro d0 hg g1 e0 hb;have n_:=Zb (bb_ a0 hb) (Zb (bb_ b0 hb) (Zb (bb_ c0 hb) (Zb (hs_ HB hb) (Zb (Za (e0)) (Zb (ag_ HB d0) (Zb (ag_ HB d0) (Zb (n1_ a0 d0) (Zb (n2_ a0 d0) (Zb (n1_ b0 d0) (Zb (n2_ b0 d0) (Zb (n1_ c0 d0) (n2_ c0 d0))))))))))));clear a0 b0 c0 HB;obtain ⟨a0,b0,c0,HB,B0,W0,K0,t0,v0,w0,r0,u0,n0⟩:=n_;clear hb e0 hg;have M0:=v0.o;have T0:=t0.o;have O0:=r0.o;have V0:=w0.o;have R0:=n0.o;have P0:=u0.o;obtain ⟨_,_,_,_,_,_,_,_,_,_⟩:=bc5_ B0.o;obtain ⟨_,_,_,_,_,_⟩:=bc3_ a0.o;obtain ⟨_,_,_,_,_,_⟩:=bc3_ c0.o;obtain ⟨_,_,_,_,_,_⟩:=bc3_ b0.o))
  refine bodyPost_ret (results_cell_row rfl _ _ g0 23 #[.int .i64 (wrap64 (1+(Int.tmod (wrap64 (h0)) 6))), .int .i64 (wrap64 (1+(Int.tmod (wrap64 (q0)) 8))), .int .i64 (wrap64 (1+(Int.tmod (wrap64 (A0)) y0)))] (0,0) _ rfl kb_ underlying23 rfl kr_) rfl ?_;exact ⟨er_,bl_⟩
mutual
def anz.l0:Nat->Int->Int->Int->Int->List Bool->Int->Option (List Bool)
 |0,_,_,_,_,_,_=>none
 |k+1,x0,x1,x2,x3,x9,x10=>if x10<x0 then (if x9.length<140737488355328 then (anz.l0 k x0 x1 x2 x3 (x9++ [true]) (wrap64 (x10+1))) else (none)) else (if x0=0 then (none) else (anz.l1 k x0 x1 x3 x9 (Int.tmod x2 x0) 0))
def anz.l1:Nat->Int->Int->Int->List Bool->Int->Int->Option (List Bool)
 |0,_,_,_,_,_,_=>none
 |k+1,x0,x1,x3,x9,x11,x12=>if x12<x1 then (anz.j2 k x0 x1 x3 x9 x11 x12 (decide (x12<x0))) else (anz.j2 k x0 x1 x3 x9 x11 x12 false)
def anz.j2:Nat->Int->Int->Int->List Bool->Int->Int->Bool->Option (List Bool)
 |0,_,_,_,_,_,_,_=>none
 |k+1,x0,x1,x3,x9,x11,x12,x31=>if x31=true then (anz.l2 k x0 x1 x3 x9 x11 x12) else (some x9)
def anz.l2:Nat->Int->Int->Int->List Bool->Int->Int->Option (List Bool)
 |0,_,_,_,_,_,_=>none
 |k+1,x0,x1,x3,x9,x11,x12=>if 0<=x11 then (if x11<(x9.length:Int) then (if rdOf false x9 x11=true then (if x0=0 then (none) else (anz.l1 k x0 x1 x3 (x9.set (x11:Int).toNat false) (Int.tmod (wrap64 (x11+x3)) x0) (wrap64 (x12+1)))) else (if x0=0 then (none) else (anz.l2 k x0 x1 x3 x9 (Int.tmod (wrap64 (x11+1)) x0) x12))) else (none)) else (none)
end
def anz.f (k:Nat) (a0 a1 a2:Int) (a3:Int):Option (List Bool):=anz.l0 k a0 a1 a2 a3 ([] :List Bool) 0
theorem anz.calls (k:Nat) (a0 a1 a2 a3:Int) (r:List Bool) (w:World) (h:anz.f k a0 a1 a2 a3=some r):
  Calls prog 32 #[.int .i64 a0, .int .i64 a1, .int .i64 a2, .int .i64 a3] w fun e w'=> ∃p1:Value,e= .returned (p1)/\Kd.R Kd.bool 4 w' w.heap.size (fun _=>True) p1 r/\Below w.heap.size w w':=by
 have HB:=Za (Zw w.heap.size w);have H:=h;clear h;unfold anz.f at H;have H':=Za H;clear H;go_enter func32,ntmps32;go_wp2
 go_loopg [9,10] k (fun kq v9 G1 w'=> ∃(p0:List Bool) (g0:Int),G1= .int .i64 g0/\Aside0 (anz.l0 kq a0 a1 a2 a3 p0 g0=some r)/\Aside0 (kq<=k)/\Aside0 (Kd.R Kd.bool 4 w' w.heap.size (fun _=>True) v9 p0)/\Aside0 (Below w.heap.size w w'))
 case atStart=>exact ⟨(([] :List Bool)),(0),sd_,H',⟨Zv _⟩,⟨nl_⟩,⟨bl_⟩⟩
 clear H';obtain ⟨p0,g0,rfl,HA,t0,c0,HB⟩:=hrel;rcases gk with _|k1
 ·exact Yf HA.o (by simp [anz.l0])
 have H:=HA.o;clear HA;simp only [anz.l0] at H;by_cases c5:g0<a0
 ·rw [Ya c5] at H;have J0:=Zd c5;clear c5;obtain ⟨f1,H⟩:=ij_ H;obtain ⟨j1,n0⟩: ∃y_:List Bool,y_=(p0++ [true]):=⟨_,rfl⟩
  first|rw [Zl, <-n0] at H|rw [<-n0] at H
  (try dsimp only at H)
  have D0:=Za n0;clear n0;have H':=Za H;clear H
  go_wp2_with (first|((with_reducible refine amz (b:= .append) (xs:= #[.tmp 18, .tmp 19]) rfl ?_);at_builtin;refine Kd.brz Kd.bool (w0:=w) w.heap.size rfl (.tmp 18) (.tmp 19) 38 4 (.bool false) 1 rfl underlying38 info4 rfl (by decide) (by omega) u9 p0 true [.bool true] (fun _=>True) (fun _=>False) rfl rfl rfl (fun _ hk=>hk.elim) (fun _ _=>trivial) (xd_ c0.o) bl_ (adz bl_) (by have:=f1.o;omega) ?_;intro C1 w7 ho hb hg hat;rw [<-D0.o] at ho;have n_:=Zb (Za (hb)) (Za (ho));clear HB c0;obtain ⟨HB,E0⟩:=n_;clear ho hb hg hat))
  go_roundg k1
  case measure=>have:=t0.o;omega
  case rel=>exact ⟨(j1),(wrap64 (g0+1)),sd_,H',⟨by have:=t0.o;omega⟩,⟨xd_ E0.o⟩,⟨bl_⟩⟩
 ·rw [Yb c5] at H;have J0:=Ze c5;clear c5;by_cases c8:a0=0
  ·rw [Ya c8] at H;exact Yf H (by simp)
  ·rw [Yb c8] at H;have b1:(a0==0)=false:=Zq c8;have U0:(a0 !=0)=true:=Yd c8;have H':=Za H;clear H;go_wp2
   go_loopg [11,12] k1 (fun kq Y0 B1 w'=> ∃(e0:List Bool) (h0:Int) (d0:Int),Y0= .int .i64 h0/\B1= .int .i64 d0/\Aside0 (anz.l1 kq a0 a1 a3 e0 h0 d0=some r)/\Aside0 (kq<=k1)/\Aside0 (Kd.R Kd.bool 4 w' w.heap.size (fun _=>True) u9 e0)/\Aside0 (Below w.heap.size w w'))
   case atStart=>exact ⟨(p0),(Int.tmod a2 a0),(0),sd_,sd_,H',⟨Zv _⟩,⟨xd_ c0.o⟩,⟨bl_⟩⟩
   clear H';clear J0 c8 b1 U0;obtain ⟨e0,h0,d0,rfl,rfl,HA,z0,c0,HB⟩:=hrel;rcases gk with _|k2
   ·exact Yf HA.o (by simp [anz.l1])
   have H:=HA.o;clear HA;simp only [anz.l1] at H;have e1:=Za H;clear H
   go_upto_region 8 with (fail)
   go_cut [31] (fun A1 wc=> ∃(kq:Nat) (o0:Bool),A1= .bool o0/\Aside0 (anz.j2 kq a0 a1 a3 e0 h0 d0 o0=some r)/\Aside0 (kq<=k2)/\Aside0 (Kd.R Kd.bool 4 wc w.heap.size (fun _=>True) u9 e0)/\Aside0 (Below w.heap.size w wc))
   case first=>
    have H:=e1.o;clear e1;by_cases A0:d0<a1
    ·rw [Ya A0] at H;have K0:=Zd A0;clear A0;have H':=Za H;clear H;go_wp2
     go_meet
     case rel=>exact ⟨_,(decide (d0<a0)),sd_,H',⟨by have:=t0.o;have:=z0.o;first|omega|exact Zv _⟩,⟨xd_ c0.o⟩,⟨bl_⟩⟩
    ·rw [Yb A0] at H;have K0:=Ze A0;clear A0;have H':=Za H;clear H;go_wp2
     go_meet
     case rel=>exact ⟨_,(false),sd_,H',⟨by have:=t0.o;have:=z0.o;first|omega|exact Zv _⟩,⟨xd_ c0.o⟩,⟨bl_⟩⟩
   case rest=>
    clear e1;obtain ⟨kq,o0,rfl,HA,Q0,c0,HB⟩:=hcut;rcases kq with _|o1
    ·exact Yf HA.o (by simp [anz.j2])
    have H:=HA.o;clear HA;simp only [anz.j2] at H;by_cases M0:o0=true
    rotate_left
    ·replace M0:=Zr M0;subst M0;rw [Yb (show¬(false=true) by decide)] at H;obtain rfl:=Zn H;go_wp2;go_ret;exact ⟨_,er_,xd_ c0.o,bl_⟩
    subst M0;rw [Ya rfl] at H;have H':=Za H;clear H;go_wp2
    go_loopg [11] o1 (fun kq Y0 w'=> ∃(b0:Int),Y0= .int .i64 b0/\Aside0 (anz.l2 kq a0 a1 a3 e0 b0 d0=some r)/\Aside0 (kq<=o1)/\Aside0 (Kd.R Kd.bool 4 w' w.heap.size (fun _=>True) u9 e0)/\Aside0 (Below w.heap.size w w'))
    case atStart=>exact ⟨(h0),sd_,H',⟨Zv _⟩,⟨xd_ c0.o⟩,⟨bl_⟩⟩
    clear H';obtain ⟨b0,rfl,HA,R0,c0,HB⟩:=hrel;rcases gk with _|k4
    ·exact Yf HA.o (by simp [anz.l2])
    have H:=HA.o;clear HA;simp only [anz.l2] at H;obtain ⟨t1,H⟩:=ih_ H;obtain ⟨r1,H⟩:=ih_ H;obtain ⟨H0,q0⟩: ∃b_:Bool,b_=(rdOf false e0 b0):=⟨_,rfl⟩;replace H:(if H0=true then (if a0=0 then (none) else (anz.l1 k4 a0 a1 a3 (e0.set (b0:Int).toNat false) (Int.tmod (wrap64 (b0+a3)) a0) (wrap64 (d0+1)))) else (if a0=0 then (none) else (anz.l2 k4 a0 a1 a3 e0 (Int.tmod (wrap64 (b0+1)) a0) d0)))=some r:=by rw [<-q0] at H;exact H
    have r0:=Za q0;clear q0;by_cases N0:H0=true
    rotate_left
    ·replace N0:=Zr N0;subst N0;rw [Yb (show¬(false=true) by decide)] at H;by_cases P0:a0=0
     ·rw [Ya P0] at H;exact Yf H (by simp)
     ·rw [Yb P0] at H;have m1:(a0==0)=false:=Zq P0;have s1:(a0 !=0)=true:=Yd P0;have H':=Za H;clear H;obtain ⟨y1,z1,g1⟩:=Kd.aQz c0.o;subst g1;have j0:0<=(b0:Int):=Zc as_;have i0:b0<(e0.length:Int):=Zc as_;obtain ⟨_,v0,f0⟩:=Kd.at_bool (Kd.aHz c0.o).2.2 b0 j0 i0
      (try rw [<-r0.o] at f0)
      cases v0
      replace j0:=Zz j0;replace i0:=Zz i0;go_wp2
      go_roundg k4
      case measure=>have:=t0.o;have:=z0.o;have:=Q0.o;have:=R0.o;omega
      case rel=>exact ⟨(Int.tmod (wrap64 (b0+1)) a0),sd_,H',⟨by have:=t0.o;have:=z0.o;have:=Q0.o;have:=R0.o;omega⟩,⟨xd_ c0.o⟩,⟨bl_⟩⟩
    subst N0;rw [Ya rfl] at H;obtain ⟨B0,k0⟩: ∃y_:List Bool,y_=(e0.set (b0:Int).toNat false):=⟨_,rfl⟩
    first|rw [Zl, <-k0] at H|rw [<-k0] at H
    (try dsimp only at H)
    have C0:=Za k0;clear k0;by_cases L0:a0=0
    ·rw [Ya L0] at H;exact Yf H (by simp)
    ·rw [Yb L0] at H;have n1:(a0==0)=false:=Zq L0;have q1:(a0 !=0)=true:=Yd L0;have H':=Za H;clear H;obtain ⟨I1,X0,S0⟩:=Kd.aQz c0.o;subst S0;have j0:0<=(b0:Int):=Zc as_;have i0:b0<(e0.length:Int):=Zc as_;obtain ⟨_,v0,f0⟩:=Kd.at_bool (Kd.aHz c0.o).2.2 b0 j0 i0
     (try rw [<-r0.o] at f0)
     cases v0
     replace j0:=Zz j0;replace i0:=Zz i0;have d1:0<=(b0:Int):=Zc as_;have Z0:(b0:Int)<((e0.length:Int):Int):=Zc as_;obtain ⟨u0,D1,F0,G0,W0,E1,I0⟩:=Kd.egz c0.o (by omega)
     (first|cases F0|(injection F0 with O0 v1 F1;(first|subst O0|(injection O0 with O0;subst O0));subst F1;clear v1))
     have i1:=Za G0;have H1:=Za I0;clear G0 W0 I0
     (first|simp only [add_plain] at f0|skip)
     obtain ⟨V0,T0⟩:=Kd.R_celln false c0.o (b0:Int) d1 Z0;replace d1:=Zz d1;replace Z0:=Zz Z0;have y0:=Kd.R_putg c0.o (b0:Int) false
     go_wp2_with (first|((with_reducible refine dbz (t:=4) (p:=45) rfl ?_);refine dDz (t:=4) (p:=45) (v:= ?vo_w20) (w1:=(wr.setCell ⟨u0,(b0:Int).toNat,none⟩ (.bool false))) ?hg ?ho ?hn ?hr ?_;(case ho=>rfl);(case hg=>rfl);(case hn=>rfl);(case hr=>first|(go_simp;done)|(go_simp;rfl));intro c1 hw;have hg:wr.grownBy c1 (some u0):=(by rw [hw];exact y0.2);have u1:Kd.R Kd.bool 4 c1 w.heap.size (fun _=>True) (.slice (some ⟨u0,0,none⟩) e0.length X0) B0:=(by rw [hw,C0.o];exact y0.1);clear y0;have n_:=Zb (Za (u1)) (Za ((by rw [hw];exact dqz (HB.o) i1.o:Below w.heap.size w c1)));clear c0 HB;obtain ⟨c0,HB⟩:=n_;clear hg hw u1))
     go_roundg k4
     case measure=>have:=t0.o;have:=z0.o;have:=Q0.o;have:=R0.o;omega
     case rel=>exact ⟨(B0),(Int.tmod (wrap64 (b0+a3)) a0),(wrap64 (d0+1)),sd_,sd_,H',⟨by have:=t0.o;have:=z0.o;have:=Q0.o;have:=R0.o;omega⟩,⟨xd_ c0.o⟩,⟨bl_⟩⟩
theorem C_numsF {k:IntKind} {w:World} {g:Nat} {t:TypeId} {xs:List Int} {fr:Nat×Nat} (h:w.heap[g]?=some (.cells (nums k xs).toArray t fr)) (hl:xs.length<=9223372036854775807):Kd.C (Kd.int k) w (some ⟨g,0,none⟩) xs.length xs:=by
 refine ⟨rfl,hl,fun _=>⟨_,rfl,fun j p hp=>⟨[.int k p],rfl,rfl,fun i u hu=> ?_⟩⟩⟩;obtain ⟨hj,rfl⟩:=Zk hp
 cases i with
 |succ i=>simp at hu
 |zero=>
  obtain rfl:Value.int k xs[j] =u:=by simpa using hu
  have e:(⟨g,0,none⟩:Addr).add (j*(Kd.int k).sz+0)=⟨g,j,none⟩:=by
   show (⟨g,0,none⟩:Addr).add (j*1+0)=_;unfold Addr.add;split<;>simp_all
  rw [e,cell_of_row w g j _ t fr h];simp [nums,hj]
mutual
def aLz.l0:Nat->List Int->List (List Int)->Int->Int->Option (List Int×Int)
 |0,_,_,_,_=>none
 |k+1,x4,x14,x15,x16=>if x16<x15 then (if 0<=x16 then (if x16<(x14.length:Int) then (if ((rd_L1 x14 x16).length:Int)=(x4.length:Int) then (aLz.l1 k x4 x14 x15 x16 (rd_L1 x14 x16) ((rd_L1 x14 x16).length:Int) 0) else (some (([] :List Int),1))) else (none)) else (none)) else (some (x4,0))
def aLz.l1:Nat->List Int->List (List Int)->Int->Int->List Int->Int->Int->Option (List Int×Int)
 |0,_,_,_,_,_,_,_=>none
 |k+1,x4,x14,x15,x16,x25,x26,x27=>if x27<x26 then (if 0<=x27 then (if x27<(x25.length:Int) then (if x27<(x4.length:Int) then (aLz.l1 k (x4.set (x27:Int).toNat (Go.bits .xor .u8 (rd x4 x27) (rd x25 x27))) x14 x15 x16 x25 x26 (wrap64 (x27+1))) else (none)) else (none)) else (none)) else (aLz.l0 k x4 x14 x15 (wrap64 (x16+1)))
end
def aLz.f (k:Nat) (l0:List (List Int)):Option (List Int×Int):=if 0<(l0.length:Int) then (if 0<=((rd_L1 l0 0).length:Int) then (if (((rd_L1 l0 0).length:Int):Int).toNat<=281474976710656 then (aLz.l0 k (List.replicate (((rd_L1 l0 0).length:Int):Int).toNat 0) l0 (l0.length:Int) 0) else (none)) else (none)) else (none)
theorem aLz.a6z: ∀k,(∀y0 y1 y2 y3,LeO (aLz.l0 k y0 y1 y2 y3) (aLz.l0 (k+1) y0 y1 y2 y3))/\(∀y0 y1 y2 y3 y4 y5 y6,LeO (aLz.l1 k y0 y1 y2 y3 y4 y5 y6) (aLz.l1 (k+1) y0 y1 y2 y3 y4 y5 y6))
 |0=>⟨fun _ _ _ _ r h=>by simp [aLz.l0] at h,fun _ _ _ _ _ _ _ r h=>by simp [aLz.l1] at h⟩
 |k+1=>by
  obtain ⟨a0,b0⟩:=aLz.a6z k;refine ⟨?_,?_⟩
  ·intro y0 y1 y2 y3;unfold aLz.l0
   repeat' with_reducible first|apply a0|apply b0|apply Yg|apply Yh|apply Yi|refine Yj ?_ fun _=>?_
  ·intro y0 y1 y2 y3 y4 y5 y6;unfold aLz.l1
   repeat' with_reducible first|apply a0|apply b0|apply Yg|apply Yh|apply Yi|refine Yj ?_ fun _=>?_
theorem aLz.mono: ∀a0 k,LeO (aLz.f k a0) (aLz.f (k+1) a0):=by
 intro a0 k;obtain ⟨b0,c0⟩:=aLz.a6z k;unfold aLz.f
 repeat' with_reducible first|apply b0|apply c0|apply Yg|apply Yh|apply Yi|refine Yj ?_ fun _=>?_
theorem aLz.calls (k:Nat) (A0:Option Addr) (c0:Nat) (l0:List (List Int)) (r1:List Int) (r2:Int) (w:World) (L1:Kd.C (Kd.slice 5 (Kd.int .u8)) w A0 l0.length l0) (O1:l0.length<=c0) (h:aLz.f k l0=some (r1,r2)):
  Calls prog 82 #[.slice A0 l0.length c0] w fun e w'=> ∃N1:Value,e= .returned (.tuple #[N1, .int .i64 r2])/\Kd.R (Kd.int .u8) 5 w' w.heap.size (fun _=>True) N1 r1/\Below w.heap.size w w':=by
 have J1:=Za L1;have j2:=Za O1;clear L1 O1;have HB:=Za (Zw w.heap.size w);have H:=h;clear h;unfold aLz.f at H;obtain ⟨c2,H⟩:=ig_ H;have q1:=Zd c2;have g1:decide (0<l0.length)=true:=Zd (by omega);clear c2;obtain ⟨c3,H⟩:=ig_ H;have F1:=Zz c3;have u1:=Zd c3;clear c3;obtain ⟨c4,H⟩:=ig_ H;have I1:=Zz c4;have C1:=Zd c4;clear c4;obtain ⟨B1,q0⟩: ∃y_:List Int,y_=(List.replicate (((rd_L1 l0 0).length:Int):Int).toNat 0):=⟨_,rfl⟩
 first|rw [Zl, <-q0] at H|rw [<-q0] at H
 (try dsimp only at H)
 have F0:=Za q0;clear q0;have H':=Za H;clear H;have z0:0<=(0:Int):=(by omega);have B0:0<(l0.length:Int):=Zc as_;obtain ⟨D0,K1,m1,i1,k0,r0,u0⟩:=at_L1 J1.o 0 z0 B0;cases i1
 have P1:(0<l0.length)=True:=Zz (by omega)
 (try rw [show ((0:Int)).toNat=0 from rfl] at k0)
 (try rw [Addr.add_zero'] at k0)
 have a1:=Za u0;have c1:=Za r0;clear u0 r0;replace z0:=Zz z0;replace B0:=Zz B0;go_enter func82,ntmps82
 go_wp2_with (first|((with_reducible refine aTz (N:=13) rfl ?_);refine Kd.R_make (Kd.int .u8) _ 5 rfl (N:=13) rfl 34 _ _ rfl ((rd_L1 l0 0).length:Int) rfl rfl underlying34 (.int .u8 0) 1 info5 rfl (by decide) (by omega) 0 (ok:=fun _=>True) (okp:=fun _=>True) rfl (fun _ hk=>hk) trivial (Zc as_) (Zt (Nat.mul_le_mul_right _ (Zc as_:((rd_L1 l0 0).length:Int).toNat<=281474976710656)) (by omega)) (Zw _ _) (Zv _) ?_;intro p1 w5 S0 hb W1 O0;clear W1 O0;(first|rw [<-F0.o] at S0|(simp only [Int.reduceToNat] at S0;rw [<-F0.o] at S0));have n_:=Zb (Za (Kd.bCz S0 (adz bl_))) (hs_ HB hb);clear HB;obtain ⟨P0,HB⟩:=n_;clear hb S0))
 go_loopg [16] k (fun kq f2 w'=> ∃(h0:List Int) (a0:Int),f2= .int .i64 a0/\Aside0 (aLz.l0 kq h0 l0 (l0.length:Int) a0=some (r1,r2))/\Aside0 (kq<=k)/\Aside0 (Kd.R (Kd.int .u8) 5 w' w.heap.size (fun _=>True) p1 h0)/\Aside0 (Below w.heap.size w w'))
 case atStart=>exact ⟨(B1),(0),sd_,H',⟨Zv _⟩,⟨xd_ P0.o⟩,⟨bl_⟩⟩
 clear H';clear q1 g1 F1 u1 I1 C1 k0 z0 B0;obtain ⟨h0,a0,rfl,HA,e1,e0,HB⟩:=hrel;rcases gk with _|k1
 ·exact Yf HA.o (by simp [aLz.l0])
 have H:=HA.o;clear HA;simp only [aLz.l0] at H;by_cases c7:a0<(l0.length:Int)
 rotate_left
 ·rw [Yb c7] at H;have T0:=Ze c7;clear c7;simp only [Zx,Zy] at H;obtain ⟨rfl,rfl⟩:=H;go_wp2;go_ret2;exact ⟨_,er_,xd_ e0.o,bl_⟩
 rw [Ya c7] at H;have T0:=Zd c7;clear c7;obtain ⟨j1,H⟩:=ih_ H;obtain ⟨y1,H⟩:=ih_ H;by_cases w0:((rd_L1 l0 a0).length:Int)=(h0.length:Int)
 rotate_left
 ·rw [Yb w0] at H;have H0:(((rd_L1 l0 a0).length:Int)==(h0.length:Int))=false:=Zq w0;have E0:(((rd_L1 l0 a0).length:Int) !=(h0.length:Int))=true:=Yd w0
  have G0:((rd_L1 l0 a0).length==h0.length)=false:=by first|simpa using w0|(simp at w0|-;omega)
  simp only [Zx,Zy] at H;obtain ⟨rfl,rfl⟩:=H;have o0:0<=(a0:Int):=Zc as_;have n0:a0<(l0.length:Int):=Zc as_;obtain ⟨v0,M0,K0,J0,d0,f0,g0⟩:=at_L1 J1.o a0 o0 n0;obtain rfl:D0=v0:=(by injection J0);replace d0:=(HB.o.cell (Zj w _ d0)).trans d0;have p0:=Za g0;have y0:=Za f0;clear g0 f0;replace o0:=Zz o0;replace n0:=Zz n0;obtain ⟨U1,T1,o1⟩:=Kd.aQz e0.o;subst o1;go_wp2;go_ret2;exact ⟨_,er_,nl_,bl_⟩
 rw [Ya w0] at H;have H0:(((rd_L1 l0 a0).length:Int)==(h0.length:Int))=true:=Ye w0;have E0:(((rd_L1 l0 a0).length:Int) !=(h0.length:Int))=false:=Yc w0
 have G0:((rd_L1 l0 a0).length==h0.length)=true:=by first|simpa using w0|(simp at w0|-;omega)
 clear w0;have H':=Za H;clear H;have o0:0<=(a0:Int):=Zc as_;have n0:a0<(l0.length:Int):=Zc as_;obtain ⟨v0,M0,K0,J0,d0,f0,g0⟩:=at_L1 J1.o a0 o0 n0;obtain rfl:D0=v0:=(by injection J0);replace d0:=(HB.o.cell (Zj w _ d0)).trans d0;have p0:=Za g0;have y0:=Za f0;clear g0 f0;replace o0:=Zz o0;replace n0:=Zz n0;obtain ⟨s1,Y0,H1⟩:=Kd.aQz e0.o;subst H1;go_wp2
 go_loopg [27] k1 (fun kq i2 w'=> ∃(i0:List Int) (b0:Int),i2= .int .i64 b0/\Aside0 (aLz.l1 kq i0 l0 (l0.length:Int) a0 (rd_L1 l0 a0) ((rd_L1 l0 a0).length:Int) b0=some (r1,r2))/\Aside0 (kq<=k1)/\Aside0 (Kd.R (Kd.int .u8) 5 w' w.heap.size (fun _=>True) (.slice s1 h0.length Y0) i0)/\Aside0 (Below w.heap.size w w'))
 case atStart=>exact ⟨(h0),(0),sd_,H',⟨Zv _⟩,⟨xd_ e0.o⟩,⟨bl_⟩⟩
 clear H';clear T0 j1 y1 H0 E0 G0 d0 o0 n0;obtain ⟨i0,b0,rfl,HA,b1,e0,HB⟩:=hrel;have j0:=(Kd.aHz e0.o).1;rw [j0] at e0
 (try simp only [j0])
 rcases gk with _|k2
 ·exact Yf HA.o (by simp [aLz.l1])
 have H:=HA.o;clear HA;simp only [aLz.l1] at H;by_cases N0:b0<((rd_L1 l0 a0).length:Int)
 rotate_left
 ·rw [Yb N0] at H;have W0:=Ze N0;clear N0;have H':=Za H;clear H;go_wp2
  (try simp only [<-j0])
  go_roundg k2
  case measure=>have:=e1.o;have:=b1.o;omega
  case rel=>exact ⟨(i0),(wrap64 (a0+1)),sd_,H',⟨by have:=e1.o;have:=b1.o;omega⟩,⟨by (try simp only [j0]);(with_reducible repeat (first|apply Kd.c4z|apply Kd.dxz|apply Kd.cBz));exact e0.o⟩,⟨bl_⟩⟩
 rw [Ya N0] at H;have W0:=Zd N0;clear N0;obtain ⟨Q1,H⟩:=ih_ H;obtain ⟨M1,H⟩:=ih_ H;obtain ⟨R1,H⟩:=ih_ H;obtain ⟨V0,t0⟩: ∃y_:List Int,y_=(i0.set (b0:Int).toNat (Go.bits .xor .u8 (rd i0 b0) (rd (rd_L1 l0 a0) b0))):=⟨_,rfl⟩
 first|rw [Zl, <-t0] at H|rw [<-t0] at H
 (try dsimp only at H)
 have X0:=Za t0;clear t0;have H':=Za H;clear H;obtain ⟨_,v1,Z0,g2,V1⟩:=iy_ p0.o HB b0 as_ as_;cases v1
 obtain ⟨_,A1,C0,d2,Y1⟩:=ix_ (Kd.aHz e0.o).2.2 b0 as_ as_;cases A1
 have z1:0<=(b0:Int):=Zc as_;have f1:(b0:Int)<((i0.length:Int):Int):=Zc as_;obtain ⟨L0,a2,U0,Q0,t1,b2,R0⟩:=Kd.egz e0.o (by omega)
 (first|cases U0|(injection U0 with d1 Z1 e2;(first|subst d1|(injection d1 with d1;subst d1));subst e2;clear Z1))
 have n1:=Za Q0;have X1:=Za R0;clear Q0 t1 R0
 (first|simp only [add_plain] at C0|skip)
 obtain ⟨G1,D1⟩:=Kd.R_celln 0 e0.o (b0:Int) z1 f1;replace z1:=Zz z1;replace f1:=Zz f1;have I0:=Kd.R_putg e0.o (b0:Int) (Go.bits .xor .u8 (rd i0 b0) (rd (rd_L1 l0 a0) b0))
 go_wp2_with (first|((with_reducible refine dbz (t:=5) (p:=38) rfl ?_);refine dDz (t:=5) (p:=38) (v:= ?vo_w18) (w1:=(wr.setCell ⟨L0,(b0:Int).toNat,none⟩ (.int .u8 (Go.bits .xor .u8 (rd i0 b0) (rd (rd_L1 l0 a0) b0))))) ?hg ?ho ?hn ?hr ?_;(case ho=>rfl);(case hg=>rfl);(case hn=>rfl);(case hr=>first|(go_simp;done)|(go_simp;rfl));intro E1 hw;have hg:wr.grownBy E1 (some L0):=(by rw [hw];exact I0.2);have S1:Kd.R (Kd.int .u8) 5 E1 w.heap.size (fun _=>True) (.slice (some ⟨L0,0,none⟩) i0.length Y0) V0:=(by rw [hw,X0.o];exact I0.1);clear I0;have n_:=Zb (Za (S1)) (Za ((by rw [hw];exact dqz (HB.o) n1.o:Below w.heap.size w E1)));clear e0 HB;obtain ⟨e0,HB⟩:=n_;clear hg hw S1))
 (try simp only [<-j0])
 go_roundg k2
 case measure=>have:=e1.o;have:=b1.o;omega
 case rel=>exact ⟨(V0),(wrap64 (b0+1)),sd_,H',⟨by have:=e1.o;have:=b1.o;omega⟩,⟨by (try simp only [j0]);(with_reducible repeat (first|apply Kd.c4z|apply Kd.dxz|apply Kd.cBz));exact e0.o⟩,⟨bl_⟩⟩
theorem fzz (w:World):(callFunc 205 #[]).run prog w= .ok (.value (.tuple #[])) w:=run_call_mark0 func205 kr_ kr_ kr_ .disable kr_ w
theorem once_enable (w:World):(callFunc 207 #[]).run prog w= .ok (.value (.tuple #[])) w:=run_call_mark0 func207 kr_ kr_ kr_ .enable kr_ w
theorem once_acquire (a:Addr) (w:World):(callFunc 208 #[.pointer (some a)]).run prog w= .ok (.value (.tuple #[])) w:=run_call_marked func208 kr_ kr_ kr_ .acquire kr_ a w
theorem fGz (a:Addr) (w:World):(callFunc 210 #[.pointer (some a)]).run prog w= .ok (.value (.tuple #[])) w:=run_call_marked func210 kr_ kr_ kr_ .releaseMerge kr_ a w
theorem fvz (a:Addr) (x:Value) (u:FrameMode) (w:World) (hc:w.cell? a=some x) (hz:w.frozen? a=false):
  CallsD prog 200 #[.pointer (some a), .bool true] u w fun e u' w'=>u'=u/\(e= .returned (.tuple #[])/\w'=w.drew.setCell a (.int .u32 1)):=by
 have hc':w.drew.cell? a=some x:=by go_simp
 have hz':w.drew.frozen? a=false:=by go_simp
 have hst:=run_call_store (P:=prog) func203 kr_ kr_ kr_ kr_ (k:= .u32) (y:=1) hc' hz'
 go_enter_d func200,ntmps200
 go_wp2
 go_region_calls
 all_goals (go_end0;exact ⟨rfl,rfl⟩)
theorem e9z (a:Addr) (u:FrameMode) (w:World) (hc:w.cell? a=some (.int .i32 1)) (hz:w.frozen? a=false):
  CallsD prog 199 #[.pointer (some a)] u w fun e u' w'=>u'=u/\(e= .returned (.tuple #[])/\w'=w.setCell a (.int .i32 0)):=by
 have hd:=fzz;have he:=once_enable;have hr:=fGz;have hadd:=run_call_add (P:=prog) func211 kr_ kr_ kr_ .i32 kr_ (y:= -1) (s:=0) hc hz (by simp [go_sem];rfl);have hcv:=run_convert_to_unsafe (P:=prog) (src:=229) (dst:=233) underlying229 underlying233 kr_ hc
 go_enter_d func199,ntmps199
 go_wp2
 go_end0
 go_wp2
 go_end0
 exact ⟨rfl,rfl⟩
theorem once_lock_free (a:Addr) (w:World) (hc:w.cell? a=some (.int .i32 0)) (hz:w.frozen? a=false):
  Calls prog 198 #[.pointer (some a)] w fun e w'=>e= .returned (.tuple #[])/\w'=w.setCell a (.int .i32 1):=by
 have hd:=fzz;have he:=once_enable;have ha:=once_acquire;have hcas:=run_call_cas_hit (P:=prog) func206 kr_ kr_ kr_ .i32 kr_ (y:=1) hc hz;have hc':(w.setCell a (.int .i32 1)).cell? a=some (.int .i32 1):=World.cell?_setCell_same w a _ hc;have hcv:=run_convert_to_unsafe (P:=prog) (src:=229) (dst:=233) underlying229 underlying233 kr_ hc';go_enter func198,ntmps198;go_wp2
 first|go_end0|(simp only [Exit.inBlock,Exit.then];refine bodyPost_ret (results_none rfl _ _ _) rfl ?_)|refine bodyPost_ret (results_none rfl _ _ _) rfl ?_
 go_wp2
 go_end0
 exact ⟨rfl,rfl⟩
def IsReady (W:World) (g:Nat) (w:World):Prop:= ∃a b:Nat,w.heap[g]?=some (.cells (readyF 8 285 a b) 172 (0,0))/\w.heap[a]?=some (.cells (nums .i64 (expAt 255)).toArray 3 (0,0))/\w.heap[b]?=some (.cells (nums .i64 (logAt 255)).toArray 3 (0,0))/\W.heap.size<=a/\W.heap.size<=b/\BB W w g
theorem once_slow (g pl:Nat) (W:World) (hne:g≠pl) (hg:W.heap[g]?=some (.cells (freshF 8 285) 172 (0,0))) (hp:W.heap[pl]?=some (.cells #[.pointer (some ⟨g,0,none⟩)] 72 (0,0))):
  Calls prog 193 #[.pointer (some ⟨g,2,none⟩), .func (.func 179) #[] #[.pointer (some ⟨pl,0,none⟩)]] W fun e w'=>e= .returned (.tuple #[])/\IsReady W g w':=by
 have h2:W.cell? ⟨g,2,none⟩=some (.int .u32 0):=(abz hg 2).trans rfl;have h3:W.cell? ⟨g,3,none⟩=some (.int .i32 0):=(abz hg 3).trans rfl;have f3:=bbz hg 3;have f2:=bbz hg 2;have hl:=run_call_load (P:=prog) func197 kr_ kr_ kr_ .u32 kr_ (w:=W.setCell ⟨g,3,none⟩ (.int .i32 1)) (a:=⟨g,2,none⟩) (x:=0) ((World.cell?_setCell_other _ ⟨g,3,none⟩ ⟨g,2,none⟩ _ (by simp)).trans h2);have b0:(W.setCell ⟨g,3,none⟩ (.int .i32 1)).heap[g]?=some (.cells #[.int .i64 8, .int .u32 285, .int .u32 0, .int .i32 1, .int .u32 0, .slice none 0 0, .slice none 0 0] 172 (0,0)):=coz hg 3 _ rfl;have d0:(W.setCell ⟨g,3,none⟩ (.int .i32 1)).heap[pl]?=some (.cells #[.pointer (some ⟨g,0,none⟩)] 72 (0,0)):=bHz hp (Ne.symm hne) _;have HC:=Za (gf_ready1.calls g pl _ _ _ _ hne b0 d0);have e0:=Za (BB.set (BB.refl W g) 3 (.int .i32 1));have hnot: ∀(x:Bool) (w:World),(Op.unary .not (.bool x)).run prog w= .ok (.bool (!x)) w:=fun _ _=>rfl
 have hsz:(W.setCell ⟨g,3,none⟩ (.int .i32 1)).heap.size=W.heap.size:=by simp
 have hgl:=aUz hg;clear hg hp b0 d0;have a0:=Za hsz;have c0:=Za hgl;clear hgl;clear hsz
 go_enter_defers func193,ntmps193
 go_wp2_with (go_at_call 198;refine (once_lock_free ⟨g,3,none⟩ _ (by go_simp) (by go_simp)).mono ?_;rintro e w' ⟨rfl,rfl⟩)
 generalize f0:W.setCell ⟨g,3,none⟩ (.int .i32 1)=w1 at *
 go_wp2_with (first|(go_at_call 179;refine HC.o.mono ?_;rintro e w2 ⟨rfl,a,b,k1,k2,k3,k4,k5,k6⟩)|(go_at_call 192;go_in))
 have f2':=bbz k1 2;have f3':=bbz k1 3;have h2':w2.cell? ⟨g,2,none⟩=some (.int .u32 0):=(abz k1 2).trans rfl;have h3':w2.cell? ⟨g,3,none⟩=some (.int .i32 1):=(abz k1 3).trans rfl;go_wp2;refine leaves_cons (f:=200) (args:= #[.pointer (some ⟨g,2,none⟩), .bool true]) (by simp) (by simp [go_sem]) ?_;refine (fvz ⟨g,2,none⟩ (.int .u32 0) .returning _ h2' (by simp [f2'])).mono ?_;rintro e u' w'' ⟨rfl,rfl,rfl⟩;refine leaves_cons (f:=199) (args:= #[.pointer (some ⟨g,3,none⟩)]) (by simp [settle]) (by simp [go_sem]) ?_;refine (e9z ⟨g,3,none⟩ _ _ ?_ (by simp [f3'])).mono ?_
 ·refine (World.cell?_setCell_other _ ⟨g,2,none⟩ ⟨g,3,none⟩ _ (by simp)).trans ?_;rw [World.cell?_drew];exact h3'
 rintro e u' w'' ⟨rfl,rfl,rfl⟩
 have hfin:IsReady W g ((w2.drew.setCell ⟨g,2,none⟩ (.int .u32 1)).setCell ⟨g,3,none⟩ (.int .i32 0)):=by
  have hga:a≠g:=by rintro rfl;have:=c0.o;have:=a0.o;omega
  have hgb:b≠g:=by rintro rfl;have:=c0.o;have:=a0.o;omega
  have k1':(w2.drew).heap[g]?=_:=k1;exact ⟨a,b,coz (coz k1' 2 _ rfl) 3 _ rfl,bHz (bHz (show w2.drew.heap[a]?=_ from k2) hga _) hga _,bHz (bHz (show w2.drew.heap[b]?=_ from k3) hgb _) hgb _,by have:=a0.o;omega,by have:=a0.o;omega,((e0.o.trans k6).drew.set _ _).set _ _⟩
 simp [Leaves,settle,results,results193];exact hfin
theorem once_do_first (g pl:Nat) (W:World) (hne:g≠pl) (hg:W.heap[g]?=some (.cells (freshF 8 285) 172 (0,0))) (hp:W.heap[pl]?=some (.cells #[.pointer (some ⟨g,0,none⟩)] 72 (0,0))):
  Calls prog 178 #[.pointer (some ⟨g,2,none⟩), .func (.func 179) #[] #[.pointer (some ⟨pl,0,none⟩)]] W fun e w'=>e= .returned (.tuple #[])/\IsReady W g w':=by
 have h2:W.cell? ⟨g,2,none⟩=some (.int .u32 0):=(abz hg 2).trans rfl;have HC:=Za (once_slow g pl W hne hg hp);have hl:=run_call_load (P:=prog) func197 kr_ kr_ kr_ .u32 kr_ h2;have hnot: ∀(x:Bool) (w:World),(Op.unary .not (.bool x)).run prog w= .ok (.bool (!x)) w:=fun _ _=>rfl
 clear hg hp;go_enter func178,ntmps178
 go_wp2_with (first|(go_at_call 193;refine HC.o.mono ?_;rintro e w' ⟨rfl,hR⟩)|(go_at_call 192;go_in))
 go_end0
 exact ⟨rfl,hR⟩
theorem once_do_done (a:Addr) (d:Int) (hd: ¬d=0) (fv:Value) (w:World) (h0:w.cell? a=some (.int .u32 d)) (h':⟨a.block,a.off,none⟩=a):
  Calls prog 178 #[.pointer (some a),fv] w fun e w'=>e= .returned (.tuple #[])/\w'=w:=by
 have hl:=run_call_load (P:=prog) func197 kr_ kr_ kr_ .u32 kr_ h0;have hnot: ∀(x:Bool) (w:World),(Op.unary .not (.bool x)).run prog w= .ok (.bool (!x)) w:=fun _ _=>rfl
 have hd':(d !=0)=true:=by simp [hd]
 clear h';go_enter func178,ntmps178;go_wp2
 go_end0
 exact ⟨rfl,rfl⟩
theorem IsReady.fd {W w:World} {g:Nat} {S:Nat->Prop} (h:IsReady W g w) (hg: ¬S g) (hS: ∀k,S k->k<W.heap.size):Fd w g 8 285 S/\BB W w g:=by
 obtain ⟨a,b,h1,h2,h3,h4,h5,h6⟩:=h;exact ⟨⟨hg, .inr ⟨rfl,rfl,a,b,h1,h2,h3,fun s=>by have:=hS _ s;omega,fun s=>by have:=hS _ s;omega⟩⟩,h6⟩
def IsTab (g:Nat) (w:World):Prop:= ∃a b:Nat,w.heap[g]?=some (.cells (readyF 8 285 a b) 172 (0,0))/\w.heap[a]?=some (.cells (nums .i64 (expAt 255)).toArray 3 (0,0))/\w.heap[b]?=some (.cells (nums .i64 (logAt 255)).toArray 3 (0,0))
theorem gf_ready.calls (g:Nat) (S:Nat->Prop) (W:World) (hF:Fd W g 8 285 S) (hS: ∀k,S k->k<W.heap.size):
  Calls prog 153 #[.pointer (some ⟨g,0,none⟩)] W fun e w'=>e= .returned (.pointer (some ⟨g,2,none⟩))/\IsTab g w'/\Fd w' g 8 285 S/\BB W w' g/\(W.cell? ⟨g,2,none⟩=some (.int .u32 1)->Below W.heap.size W w'):=by
 have d0: ∀(fn:Fn) (first cap:Array Value) (w:World),(Instr.makeFunc fn first cap).run prog w= .ok (.func fn first cap) w:=fun _ _ _ _=>rfl
 have hlt:=hF.lt;have hne:g≠W.heap.size:=by omega
 have a0:=Za ((BB.refl W g).alloc (.cells #[.pointer (some ⟨g,0,none⟩)] 72));obtain ⟨b0,h|⟨-, -,a,b,h1,h2,h3,ha,hb⟩⟩:=hF
 ·have HC:=Za (once_do_first g W.heap.size _ hne (aPz h _) (cEz W (.cells #[.pointer (some ⟨g,0,none⟩)] 72)));have c0:W.cell? ⟨g,2,none⟩=some (.int .u32 0):=(abz h 2).trans rfl;clear h;go_enter func153,ntmps153
  go_wp2_with fail
  refine HC.o.mono ?_;rintro e w' ⟨rfl,hR⟩
  have hc:w'.cell? ⟨W.heap.size,0,none⟩=some (.pointer (some ⟨g,0,none⟩)):=by
   obtain ⟨_,_,_,_,_,_,_,hB⟩:=hR;exact (World.cell?_of_block (hB.block _ (by simp) (Ne.symm hne))).trans ((abz (cEz W _) 0).trans rfl)
  have HR:=Za (Zb (show IsTab g w' by obtain ⟨a,b,h1,h2,h3, -⟩:=hR;exact ⟨a,b,h1,h2,h3⟩) (hR.fd b0 (fun k hk=>by have:=hS k hk;simp;omega)));clear hR;go_wp2;go_ret;exact ⟨rfl,HR.o.1,HR.o.2.1,a0.o.trans HR.o.2.2,fun h1=>by rw [c0] at h1;injection h1 with h1;injection h1 with _ h1;exact Yf h1 (by decide)⟩
 ·have h0:(W.alloc (.cells #[.pointer (some ⟨g,0,none⟩)] 72)).cell? ⟨g,2,none⟩=some (.int .u32 1):=(abz (aPz h1 _) 2).trans rfl;have HC:=Za (once_do_done ⟨g,2,none⟩ 1 (by decide) (.func (.func 179) #[] #[.pointer (some ⟨W.heap.size,0,none⟩)]) _ h0 rfl);have HR:=Za (Zb (show IsTab g (W.alloc (.cells #[.pointer (some ⟨g,0,none⟩)] 72)) from ⟨a,b,aPz h1 _,aPz h2 _,aPz h3 _⟩) (show Fd (W.alloc (.cells #[.pointer (some ⟨g,0,none⟩)] 72)) g 8 285 S from ⟨b0, .inr ⟨rfl,rfl,a,b,aPz h1 _,aPz h2 _,aPz h3 _,ha,hb⟩⟩));clear h0 h1 h2 h3;go_enter func153,ntmps153
  go_wp2_with fail
  refine HC.o.mono ?_;rintro e w' ⟨rfl,rfl⟩;go_wp2;go_ret;exact ⟨rfl,HR.o.1,HR.o.2,a0.o,fun _=>aoz (Zw _ _) _⟩
theorem exp_cell {w:World} {g:Nat} {t:TypeId} (h:w.heap[g]?=some (.cells (nums .i64 (expAt 255)).toArray t (0,0))) (j:Nat) (hj:j<255):w.cell? ⟨g,j,none⟩=some (.int .i64 (gpN j:Int)):=by
 rw [abz h j, <-exp_at j hj];have hl:j<(expAt 255).length:=by rw [ezz];omega
 generalize expAt 255=l at hl;simp [nums,hl,Zm]
theorem log_cell {w:World} {g:Nat} {t:TypeId} (h:w.heap[g]?=some (.cells (nums .i64 (logAt 255)).toArray t (0,0))) (j:Nat) (hj:j<256):w.cell? ⟨g,j,none⟩=some (.int .i64 ((logAt 255).getD j 0)):=by
 rw [abz h j];have hl:j<(logAt 255).length:=by rw [eAz];omega
 generalize logAt 255=l at hl;simp [nums,hl,Zm]
theorem gf_Exp.calls (g:Nat) (S:Nat->Prop) (n:Nat) (W:World) (hn:n<=1000000) (hF:Fd W g 8 285 S) (hS: ∀k,S k->k<W.heap.size):
  Calls prog 154 #[.pointer (some ⟨g,0,none⟩), .int .i64 (n:Int)] W fun e w'=>e= .returned (.int .i64 (gpN (n % 255):Int))/\Fd w' g 8 285 S/\BB W w' g/\(W.cell? ⟨g,2,none⟩=some (.int .u32 1)->Below W.heap.size W w'):=by
 have HF:=Za hF;have HS:=Za hS;have a0:=hF.bits;clear hF hS;obtain ⟨m,hm⟩: ∃m,n % 255=m:=⟨_,rfl⟩;have hlt:m<255:=by omega
 have e1:Int.tmod (n:Int) 255=(m:Int):=by rw [Int.tmod_eq_emod_of_nonneg (by omega)];omega
 have e1':(n:Int) % 255=(m:Int):=by omega
 have e3':((m:Int)+255) % 255=(m:Int):=by omega
 have e2:IntKind.i64.wrap ((m:Int)+255)=(m:Int)+255:=by rw [IntKind.wrap_i64];omega
 have e3:Int.tmod ((m:Int)+255) 255=(m:Int):=by rw [Int.tmod_eq_emod_of_nonneg (by omega)];omega
 have i1:(0:Int)<=(m:Int):=by omega
 have i2:(m:Int)<256:=by omega
 rw [hm];have HM:=Za hm;clear hm;go_enter func154,ntmps154
 go_wp2_with (go_at_call 150;refine (gf_Size8 g _ a0).mono ?_;rintro e w9 ⟨rfl,m9,rfl⟩)
 go_region_with (first|(go_at_call 153;refine (gf_ready.calls g S _ (HF.o.drewN _) HS.o).mono ?_;rintro e w1 ⟨rfl,⟨a,b,k1,k2,k3⟩,k4,k5,k6⟩;have c5:w1.cell? ⟨g,5,none⟩=some (.slice (some ⟨a,0,none⟩) 256 256):=(abz k1 5).trans rfl;have cm:=exp_cell k2 m hlt;have K4:=Za k4;have K5:=Za k5;have K6:=Za k6;clear k1 k2 k3 k4 k5 k6))
 all_goals
  go_wp2;go_ret;exact ⟨rfl,K4.o,⟨K5.o.os,K5.o.tape,K5.o.output,K5.o.size,K5.o.block⟩,fun h=>by have hB:=K6.o (by simpa using h);exact ⟨hB.os,hB.tape,hB.output,hB.size,hB.block⟩⟩
end Go.Proofs.Xc
end
