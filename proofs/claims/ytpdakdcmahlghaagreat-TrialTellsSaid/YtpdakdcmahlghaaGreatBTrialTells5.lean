-- Joined texts of this work (wip/tools/bundle.py).
import Derived.WalkSpells
import Derived.Deep.DeepMust
import Derived.RangeFuncNested
import Derived.RangeFuncBound
import Derived.RangeFuncCalls
import Derived.RangeFuncLeaves
import Derived.Test.YtpdakdcmahlghaaGreatBTrialTells4
set_option maxHeartbeats 8000000
set_option maxRecDepth 100000
set_option linter.unusedVariables false
set_option linter.unusedSimpArgs false
section
namespace Go.Proofs.Xc
open Go.RowKit Go.Proofs.Pw Go.Proofs.Pl Go.Proofs.Pm
attribute [local go_sem] bcz bdz bpz bqz a4z a5z bez bfz
mutual
def brz.j0:Nat->Int->Bool->Option (Bool)
 |0,_,_=>none
 |k+1,x0,x13=>if x13=true then (some false) else ((cez.f (IntKind.u64.wrap (x0))).bind fun t286=>(if 0<=t286 then ((bhz.f k (wrap64 ((shl .i64 1 t286) - 1))).bind fun t287=>(brz.l0 k x0 (wrap64 ((shl .i64 1 t286) - 1)) t287 (t287.length:Int) 0)) else (none)))
def brz.l0:Nat->Int->Int->List Int->Int->Int->Option (Bool)
 |0,_,_,_,_,_=>none
 |k+1,x0,x3,x20,x21,x22=>if x22<x21 then (if 0<=x22 then (if x22<(x20.length:Int) then (if (rd x20 x22)=0 then (none) else ((chz.f k 2 (wrap64 (Int.tdiv x3 (rd x20 x22))) x0).bind fun t291=>(if t291=1 then (some false) else (brz.l0 k x0 x3 x20 x21 (wrap64 (x22+1)))))) else (none)) else (none)) else (some true)
end
def brz.f (k:Nat) (a0:Int):Option (Bool):=(bkz.f k a0).bind fun t284=>(if t284=true then ((byz.f k 2 a0).bind fun t285=>(brz.j0 k a0 (t285==0))) else (brz.j0 k a0 true))
theorem brz.calls (k : Nat) (a0 : Int) (r : Bool) (w : World) (h : brz.f k a0 = some r) :
  Calls Tryz.prog 125 #[.int .u32 a0] w fun e w'=>e= .returned (.bool r)/\Below w.heap.size w w':=by
 have HB:=Za (Zw w.heap.size w);have H:=h;clear h;unfold brz.f at H;have HC2:=Za H;clear H;go_enter Tryz.func125,Tryz.ntmps125
 go_upto_region 1 with (fail)
 go_cut [13] (fun v13 wc=> ∃(kq:Nat) (x13_1:Bool),v13= .bool x13_1/\Aside0 (brz.j0 kq a0 x13_1=some r)/\Aside0 (kq<=k)/\Aside0 (Below w.heap.size w wc))
 case first=>
  have H:=HC2.out;clear HC2;obtain ⟨t284,A3,H⟩:=ob_ H
  (try dsimp only at H)
  by_cases c4:t284=true
  ·subst c4;rw [Ya rfl] at H;obtain ⟨t285,A5,H⟩:=ob_ H
   (try dsimp only at H)
   have H':=Za H;clear H
   go_wp2_with (first|((with_reducible refine aaz (f:=163) rfl ?_);refine gl_ (some 7) Tryz.func163 #[.int .u32 a0] ?_;(with_reducible refine (bkz.calls k a0 true _ A3.out).mono ?_);rintro e w6 ⟨rfl,hb⟩;refine ⟨_,rfl,?_⟩;have n0_:=hs_ HB hb;clear HB;have HB:=n0_;clear n0_;(try clear hb))|(go_at_call 164;(with_reducible refine (byz.calls k 2 a0 t285 _ A5.out).mono ?_);rintro e w' ⟨rfl,⟨nd,rfl⟩⟩))
   go_meet
   case rel=>exact ⟨_,((t285==0)),sd_,H',⟨by first|omega|exact Zv _⟩,⟨bl_⟩⟩
  ·replace c4:=Zr c4;subst c4;rw [Yb (show¬(false=true) by decide)] at H;have H':=Za H;clear H
   go_wp2_with (first|((with_reducible refine aaz (f:=163) rfl ?_);refine gl_ (some 7) Tryz.func163 #[.int .u32 a0] ?_;(with_reducible refine (bkz.calls k a0 false _ A3.out).mono ?_);rintro e w7 ⟨rfl,hb⟩;refine ⟨_,rfl,?_⟩;have n0_:=hs_ HB hb;clear HB;have HB:=n0_;clear n0_;(try clear hb)))
   go_meet
   case rel=>exact ⟨_,(true),sd_,H',⟨by first|omega|exact Zv _⟩,⟨bl_⟩⟩
 case rest=>
  clear HC2;obtain ⟨kq,x13_1,rfl,HA,HJ1,HB⟩:=hcut;rcases kq with _|kj1
  ·exact Yf HA.out (by simp [brz.j0])
  have H:=HA.out;clear HA;simp only [brz.j0] at H;by_cases c8:x13_1=true
  ·subst c8;rw [Ya rfl] at H;obtain rfl:=Zn H;go_wp2;go_ret;exact ⟨er_,bl_⟩
  ·replace c8:=Zr c8;subst c8;rw [Yb (show¬(false=true) by decide)] at H;obtain ⟨t286,A9,H⟩:=ob_ H
   (try dsimp only at H)
   by_cases c10:0<=t286
   rotate_left
   ·rw [Yb c10] at H;exact Yf H (by simp)
   rw [Ya c10] at H;have c10b0:=Zz c10;have c10b1:=Zd c10;clear c10;obtain ⟨ji11,hji11⟩: ∃j_:Int,(shl .i64 1 t286)=j_:=⟨_,rfl⟩
   replace H:((bhz.f kj1 (wrap64 ((ji11) - 1))).bind fun t287=>(brz.l0 kj1 a0 (wrap64 ((ji11) - 1)) t287 (t287.length:Int) 0))=some r:=by first|(rw [hji11] at H;exact H)|(simp only [hji11] at H|-;exact H)
   (try rw [hji11] at A9)
   have hji11_:(IntKind.i64.wrap (1*2^min t286.toNat 64))=ji11:=hji11;have hji11z:t286<=64->(IntKind.i64.wrap (1*2^t286.toNat))=ji11:=shl_small hji11;have hji11u:(IntKind.i64.wrap (2^min t286.toNat 64))=ji11:=by have h_:=hji11_;rw [Int.one_mul] at h_;exact h_
   have hji11v:t286<=64->(IntKind.i64.wrap (2^t286.toNat))=ji11:=fun hle_=>by have h_:=hji11z hle_;rw [Int.one_mul] at h_;exact h_
   have hji11y:(wrap64 (1*2^min t286.toNat 64))=ji11:=(i64_w _).symm.trans hji11_;have hji11x:t286<=64->(wrap64 (1*2^t286.toNat))=ji11:=fun h_=>(i64_w _).symm.trans (hji11z h_)
   obtain ⟨t287,A12,H⟩:=ob_ H
   (try dsimp only at H)
   have H':=Za H;clear H
   go_wp2_with (first|((with_reducible refine aaz (f:=124) rfl ?_);refine gl_ (some 16) Tryz.func124 #[.int .u64 (IntKind.u64.wrap (a0))] ?_;(with_reducible refine (cez.calls (IntKind.u64.wrap (a0)) t286 _ A9.out).mono ?_);rintro e w' ⟨rfl,⟨nd,rfl⟩⟩;refine ⟨_,rfl,?_⟩)|((with_reducible refine aaz (f:=165) rfl ?_);refine goesL_ (some 20) rfl rfl Tryz.func165 kr_ rfl #[.int .i64 (wrap64 ((ji11) - 1))] rfl (by (try simp only [List.map_toArray,List.map_cons,List.map_nil]);first|done|(simp only [hji11];rfl)|rfl|(simp only [List.length_drop,List.length_take];rfl)) ?_;(with_reducible refine (bhz.calls kj1 (wrap64 ((ji11) - 1)) t287 _ A12.out).mono ?_);rintro e w13 ⟨v288,rfl,ho0,hb⟩;refine ⟨_,rfl,?_⟩;have n_:=Zb (Za (Kd.bAz ho0 (adz bl_))) (hs_ HB hb);clear HB;obtain ⟨HO289,HB⟩:=n_;clear hb ho0;obtain ⟨Ao14,co14,eo14⟩:=Kd.a3z HO289.out;subst eo14))
   go_loopg [22] kj1 (fun kq v22 w'=> ∃(x22_2:Int),v22= .int .i64 x22_2/\Aside0 (brz.l0 kq a0 (wrap64 ((ji11) - 1)) t287 (t287.length:Int) x22_2=some r)/\Aside0 (kq<=kj1)/\Aside0 (Kd.R (Kd.int .i64) 3 w' w.heap.size (fun _=>True) (.slice Ao14 t287.length co14) t287)/\Aside0 (Below w.heap.size w w'))
   case atStart=>exact ⟨(0),sd_,H',⟨Zv _⟩,⟨xd_ HO289.out⟩,⟨bl_⟩⟩
   clear H';clear c10b0 c10b1;obtain ⟨x22_2,rfl,HA,HK2,HO_20,HB⟩:=hrel;rcases gk with _|k2
   ·exact Yf HA.out (by simp [brz.l0])
   have H:=HA.out;clear HA;simp only [brz.l0] at H;by_cases c15:x22_2<(t287.length:Int)
   rotate_left
   ·rw [Yb c15] at H;have c15b0:=Ze c15;clear c15;obtain rfl:=Zn H;go_wp2;go_ret;exact ⟨by first|rfl|(simp [ckz,clz] <;>rfl)|(simp only [<-hji11];first|rfl|(simp [ckz,clz] <;>rfl))|(simp [*,ckz,clz] <;>rfl),bl_⟩
   rw [Ya c15] at H;have c15b0:=Zd c15;clear c15;by_cases c16:0<=x22_2
   rotate_left
   ·rw [Yb c16] at H;exact Yf H (by simp)
   rw [Ya c16] at H;have c16b0:=Zd c16;clear c16;by_cases c17:x22_2<(t287.length:Int)
   rotate_left
   ·rw [Yb c17] at H;exact Yf H (by simp)
   rw [Ya c17] at H;have c17b0:=Zd c17;clear c17;by_cases c18:(rd t287 x22_2)=0
   ·rw [Ya c18] at H;exact Yf H (by simp)
   ·rw [Yb c18] at H;have c18b0:((rd t287 x22_2)==0)=false:=Zq c18;have c18b1:((rd t287 x22_2) !=0)=true:=Yd c18;obtain ⟨t291,A19,H⟩:=ob_ H
    (try dsimp only at H)
    by_cases c20:t291=1
    ·rw [Ya c20] at H;have c20b0:(t291==1)=true:=Ye c20;have c20b1:(t291 !=1)=false:=Yc c20;clear c20;obtain rfl:=Zn H;have p290:0<=(x22_2:Int):=Zc as_;have q290:x22_2<(t287.length:Int):=Zc as_;obtain ⟨_,e290,hx290_0⟩:=Kd.boz (Kd.aPz HO_20.out).2.2 x22_2 p290 q290;cases e290
     replace p290:=Zz p290;replace q290:=Zz q290
     go_wp2_with (first|((with_reducible refine aaz (f:=166) rfl ?_);refine goesL_ (some 30) rfl rfl Tryz.func166 kr_ rfl #[.int .u32 2, .int .i64 (wrap64 (Int.tdiv (wrap64 ((ji11) - 1)) (rd t287 x22_2))), .int .u32 a0] rfl (by (try simp only [List.map_toArray,List.map_cons,List.map_nil]);first|done|(simp only [hji11];rfl)|rfl|(simp only [List.length_drop,List.length_take];rfl)) ?_;(with_reducible refine (chz.calls k2 2 (wrap64 (Int.tdiv (wrap64 ((ji11) - 1)) (rd t287 x22_2))) a0 t291 _ A19.out).mono ?_);rintro e w21 ⟨rfl,hb⟩;refine ⟨_,rfl,?_⟩;have n_:=Zb (Za (Kd.bUz (xd_ HO_20.out) hb)) (hs_ HB hb);clear HO_20 HB;obtain ⟨HO_20,HB⟩:=n_;(try clear hb)))
     go_ret;exact ⟨by first|rfl|(simp [ckz,clz] <;>rfl)|(simp only [<-hji11];first|rfl|(simp [ckz,clz] <;>rfl))|(simp [*,ckz,clz] <;>rfl),bl_⟩
    ·rw [Yb c20] at H;have c20b0:(t291==1)=false:=Zq c20;have c20b1:(t291 !=1)=true:=Yd c20;have H':=Za H;clear H;have p290:0<=(x22_2:Int):=Zc as_;have q290:x22_2<(t287.length:Int):=Zc as_;obtain ⟨_,e290,hx290_0⟩:=Kd.boz (Kd.aPz HO_20.out).2.2 x22_2 p290 q290;cases e290
     replace p290:=Zz p290;replace q290:=Zz q290
     go_wp2_with (first|((with_reducible refine aaz (f:=166) rfl ?_);refine goesL_ (some 30) rfl rfl Tryz.func166 kr_ rfl #[.int .u32 2, .int .i64 (wrap64 (Int.tdiv (wrap64 ((ji11) - 1)) (rd t287 x22_2))), .int .u32 a0] rfl (by (try simp only [List.map_toArray,List.map_cons,List.map_nil]);first|done|(simp only [hji11];rfl)|rfl|(simp only [List.length_drop,List.length_take];rfl)) ?_;(with_reducible refine (chz.calls k2 2 (wrap64 (Int.tdiv (wrap64 ((ji11) - 1)) (rd t287 x22_2))) a0 t291 _ A19.out).mono ?_);rintro e w22 ⟨rfl,hb⟩;refine ⟨_,rfl,?_⟩;have n_:=Zb (Za (Kd.bUz (xd_ HO_20.out) hb)) (hs_ HB hb);clear HO_20 HB;obtain ⟨HO_20,HB⟩:=n_;(try clear hb)))
     (first|go_roundg k2|(subst hji11;go_roundg k2))
     case measure=>have:=HJ1.out;have:=HK2.out;omega
     case rel=>exact ⟨(wrap64 (x22_2+1)),sd_,H',⟨by have:=HJ1.out;have:=HK2.out;omega⟩,⟨xd_ HO_20.out⟩,⟨bl_⟩⟩
def b3z.f (a0:Int):Option (Bool):=if a0>=1 then (some (decide (a0<=20))) else (some false)
theorem b3z.calls (a0 : Int) (r : Bool) (w : World) (h : b3z.f a0 = some r) :
  Calls Tryz.prog 139 #[.int .i64 a0] w fun e w'=>e= .returned (.bool r)/\Drawn0 w w':=by
 have H:=h;clear h;unfold b3z.f at H;by_cases c2:a0>=1
 ·rw [Ya c2] at H;have c2b0:decide (1<=a0)=true:=Zd c2;clear c2;obtain rfl:=Zn H;go_enter Tryz.func139,Tryz.ntmps139;go_wp2;go_ret;exact ⟨sd_,dn_⟩
 ·rw [Yb c2] at H;have c2b0:decide (1<=a0)=false:=Ze c2;clear c2;obtain rfl:=Zn H;go_enter Tryz.func139,Tryz.ntmps139;go_wp2;go_ret;exact ⟨sd_,dn_⟩
def b1z.l0:Nat->Int->List (List Int)->Int->Int->Option ((List (List Int)))
 |0,_,_,_,_=>none
 |k+1,x0,x3,x9,x10=>if x10<x9 then (if 0<=x0 then (if (x0:Int).toNat<=35184372088832 then ((some (List.replicate (x0:Int).toNat 0:List Int)).bind fun y293=>(if 0<=x10 then (if x10<(y293.length:Int) then (if x3.length<5864062014805 then (b1z.l0 k x0 (x3++ [(y293.set (x10:Int).toNat 1)]) x9 (wrap64 (x10+1))) else (none)) else (none)) else (none))) else (none)) else (none)) else (some x3)
def b1z.f (k:Nat) (a0:Int):Option ((List (List Int))):=(b3z.f a0).bind fun t292=>(if t292=true then (b1z.l0 k a0 ([] :List (List Int)) a0 0) else (some ([] :List (List Int))))
theorem b1z.calls (k : Nat) (a0 : Int) (r : List (List Int)) (w : World) (h : b1z.f k a0 = some r) :
  Calls Tryz.prog 95 #[.int .i64 a0] w fun e w'=> ∃v0_:Value,e= .returned (v0_)/\Kd.S (Kd.slice 3 (Kd.int .i64)) 57 w' w.heap.size (fun _=>True) v0_ r/\Below w.heap.size w w':=by
 have HB:=Za (Zw w.heap.size w);have H:=h;clear h;unfold b1z.f at H;obtain ⟨t292,A2,H⟩:=ob_ H
 (try dsimp only at H)
 by_cases c3:t292=true
 rotate_left
 ·replace c3:=Zr c3;subst c3;rw [Yb (show¬(false=true) by decide)] at H;obtain rfl:=Zn H;go_enter Tryz.func95,Tryz.ntmps95
  go_wp2_with (first|((with_reducible refine aaz (f:=139) rfl ?_);refine gl_ (some 7) Tryz.func139 #[.int .i64 a0] ?_;(with_reducible refine (b3z.calls a0 false _ A2.out).mono ?_);rintro e w' ⟨rfl,⟨nd,rfl⟩⟩;refine ⟨_,rfl,?_⟩))
  go_ret;exact ⟨_,er_,nl_,bl_⟩
 subst c3;rw [Ya rfl] at H;have H':=Za H;clear H;go_enter Tryz.func95,Tryz.ntmps95
 go_wp2_with (first|((with_reducible refine aaz (f:=139) rfl ?_);refine gl_ (some 7) Tryz.func139 #[.int .i64 a0] ?_;(with_reducible refine (b3z.calls a0 true _ A2.out).mono ?_);rintro e w' ⟨rfl,⟨nd,rfl⟩⟩;refine ⟨_,rfl,?_⟩))
 go_loopg [3,10] k (fun kq v3 v10 w'=> ∃(x3_1:List (List Int)) (x10_1:Int),v10= .int .i64 x10_1/\Aside0 (b1z.l0 kq a0 x3_1 a0 x10_1=some r)/\Aside0 (kq<=k)/\Aside0 (Kd.S (Kd.slice 3 (Kd.int .i64)) 57 w' w.heap.size (fun _=>True) v3 x3_1)/\Aside0 (Below w.heap.size w w'))
 case atStart=>exact ⟨(([] :List (List Int))),(0),sd_,H',⟨Zv _⟩,⟨nl_⟩,⟨bl_⟩⟩
 clear H';obtain ⟨x3_1,x10_1,rfl,HA,HK1,HO_3,HB⟩:=hrel;rcases gk with _|k1
 ·exact Yf HA.out (by simp [b1z.l0])
 have H:=HA.out;clear HA;simp only [b1z.l0] at H;by_cases c4:x10_1<a0
 rotate_left
 ·rw [Yb c4] at H;have c4b0:=Ze c4;clear c4;obtain rfl:=Zn H;go_wp2;go_ret;exact ⟨_,er_,xd_ HO_3.out,bl_⟩
 rw [Ya c4] at H;have c4b0:=Zd c4;clear c4;by_cases c5:0<=a0
 rotate_left
 ·rw [Yb c5] at H;exact Yf H (by simp)
 rw [Ya c5] at H;have c5b0:=Zz c5;have c5b1:=Zd c5;clear c5;by_cases c6:(a0:Int).toNat<=35184372088832
 rotate_left
 ·rw [Yb c6] at H;exact Yf H (by simp)
 rw [Ya c6] at H;have c6b0:=Zz c6;have c6b1:=Zd c6;clear c6;obtain ⟨y293,hy293⟩: ∃y_:List Int,y_=(List.replicate (a0:Int).toNat 0):=⟨_,rfl⟩
 first|rw [Zl, <-hy293] at H|rw [<-hy293] at H
 (try dsimp only at H)
 have Ny293:=Za hy293;clear hy293;by_cases c7:0<=x10_1
 rotate_left
 ·rw [Yb c7] at H;exact Yf H (by simp)
 rw [Ya c7] at H;have c7b0:=Zd c7;clear c7;by_cases c8:x10_1<(y293.length:Int)
 rotate_left
 ·rw [Yb c8] at H;exact Yf H (by simp)
 rw [Ya c8] at H;have c8b0:=Zd c8;clear c8;obtain ⟨y296,hy296⟩: ∃y_:List Int,y_=(y293.set (x10_1:Int).toNat 1):=⟨_,rfl⟩
 first|rw [Zl, <-hy296] at H|rw [<-hy296] at H
 (try dsimp only at H)
 have Ny296:=Za hy296;clear hy296;by_cases c10:x3_1.length<5864062014805
 rotate_left
 ·rw [Yb c10] at H;exact Yf H (by simp)
 rw [Ya c10] at H;have LMc10:=Za c10;clear c10;obtain ⟨y297,hy297⟩: ∃y_:List (List Int),y_=(x3_1++ [y296]):=⟨_,rfl⟩
 first|rw [Zl, <-hy297] at H|rw [<-hy297] at H
 (try dsimp only at H)
 have Ny297:=Za hy297;clear hy297;have H':=Za H;clear H
 go_wp2_with (first|((with_reducible refine aMz (N:=14) rfl ?_);refine Kd.R_make (Kd.int .i64) _ 3 rfl (N:=14) rfl 57 _ _ rfl a0 rfl rfl Tryz.underlying57 (.int .i64 0) 8 info3 rfl (by decide) (by omega) 0 (ok:=fun _=>True) (okp:=fun _=>True) rfl (fun _ hk=>hk) trivial (Zc as_) (Zt (Nat.mul_le_mul_right _ (Zc as_:a0.toNat<=35184372088832)) (by omega)) (Zw _ _) (Zv _) ?_;intro v294 w11 ho12 hb hg_ hnew_;clear hg_ hnew_;(first|rw [<-Ny293.out] at ho12|(simp only [Int.reduceToNat] at ho12;rw [<-Ny293.out] at ho12));have n_:=Zb (Za (Kd.S_elder' (xd_ HO_3.out) (Kd.ciz ho12) hb)) (Zb (Za (Kd.bAz ho12 (adz bl_))) (hs_ HB hb));clear HO_3 HB;obtain ⟨HO_3,HO295,HB⟩:=n_;clear hb ho12;have p9:0<=(x10_1:Int):=Zc as_;have q9:(x10_1:Int)<((y293.length:Int):Int):=Zc as_;obtain ⟨go9,co9,eo9,gb9,gl9,cl9,HG9⟩:=Kd.dHz HO295.out (by omega);(first|cases eo9|(injection eo9 with ea_ en_ ec_;(first|subst ea_|(injection ea_ with ea_;subst ea_));subst ec_;clear en_));have GB9:=Za gb9;have GG9:=Za HG9;clear gb9 gl9 HG9;obtain ⟨hx9_0,hf9_0⟩:=Kd.R_celln 0 HO295.out (x10_1:Int) p9 q9;replace p9:=Zz p9;replace q9:=Zz q9;obtain ⟨hy13_,hz13_⟩:=Kd.R_celln 0 HO295.out (x10_1:Int) (Zc as_) (Zc as_);have HP13:=Kd.R_putg HO295.out (x10_1:Int) 1)|((with_reducible refine dkz (t:=3) (p:=17) rfl ?_);refine dZz (t:=3) (p:=17) (v:= ?vo_w14) (w1:=(w11.setCell ⟨go9,(x10_1:Int).toNat,none⟩ (.int .i64 1))) ?hg ?ho ?hn ?hr ?_;(case ho=>rfl);(case hg=>rfl);(case hn=>rfl);(case hr=>first|(go_simp;done)|(go_simp;rfl));intro w14 hw;have hg:w11.grownBy w14 (some go9):=(by rw [hw];exact HP13.2);have hp_:Kd.R (Kd.int .i64) 3 w14 w.heap.size (fun _=>True) (.slice (some ⟨go9,0,none⟩) y293.length co9) y296:=(by rw [hw,Ny296.out];exact HP13.1);clear HP13;have n_:=Zb (Za (Kd.cSz (v:=(.slice (some ⟨go9,0,none⟩) y293.length co9)) (v1:=(.slice (some ⟨go9,0,none⟩) y293.length co9)) (ok:=(fun _=>True)) (xd_ HO_3.out) hg (.inl rfl))) (Zb (Za (hp_)) (Za ((by rw [hw];exact dEz (HB.out) GB9.out:Below w.heap.size w w14))));clear HO_3 HO295 HB;obtain ⟨HO_3,HO295,HB⟩:=n_;clear hg hw hp_)|((with_reducible refine aoz (b:= .append) (xs:= #[.tmp 18, .tmp 20]) rfl ?_);at_builtin;refine Kd.b2z (Kd.slice 3 (Kd.int .i64)) (w0:=w) w.heap.size rfl (.tmp 18) (.tmp 20) 69 57 (.slice none 0 0) 24 rfl Tryz.underlying69 info57 rfl (by decide) (by omega) u3 x3_1 y296 [.slice (some ⟨go9,0,none⟩) y293.length co9] (fun _=>True) (fun k_=>some k_=(.slice (some ⟨go9,0,none⟩) y293.length co9:Value).ownBlock) rfl rfl ?aP (fun k_ hk_=>((Kd.aSz (ok':=fun k_=>((fun _=>True)) k_/\some k_≠(u3:Value).ownBlock) (Kd.bxz (HO295.out) (Kd.bQz HO_3.out) (by decide)) (fun k_ hk=>⟨trivial,hk.2⟩))).1 k_ hk_.symm) ?aF ?aO ?aB ?aS ?aL ?_;(case aP=>exact Kd.M_row (Kd.aSz (Kd.cgz rfl (Kd.aSz (ok':=fun k_=>((fun _=>True)) k_/\some k_≠(u3:Value).ownBlock) (Kd.bxz (HO295.out) (Kd.bQz HO_3.out) (by decide)) (fun k_ hk=>⟨trivial,hk.2⟩))) (fun _ h_=>h_)));(case aB=>exact bl_);(case aF=>exact (fun _ _=>trivial));(case aO=>exact (sm_ HO_3));(case aS=>exact (adz bl_));(case aL=>have:=LMc10.out;omega);intro v298 w15 ho hb hg hat;rw [<-Ny297.out] at ho;have n_:=Zb (Za (hb)) (Za (ho));clear HB HO_3 HO295;obtain ⟨HB,HO299⟩:=n_;clear ho hb hg hat))
 go_roundg k1
 case measure=>have:=HK1.out;omega
 case rel=>exact ⟨(y297),(wrap64 (x10_1+1)),sd_,H',⟨by have:=HK1.out;omega⟩,⟨xd_ HO299.out⟩,⟨bl_⟩⟩
theorem prim8:brz.f 400 285=some true:=by kernel_rfl
theorem prim16:brz.f 1500 69643=some true:=by kernel_rfl
theorem deg8:cez.f 285=some 8:=by kernel_rfl
theorem deg16:cez.f 69643=some 16:=by kernel_rfl
def Fresh (w:World) (g:Nat) (wb:Int):Prop:=w.heap[g]?=some (.cells (freshF wb (fpoly wb)) 172 (0,0))
theorem Fresh.fd {w:World} {g:Nat} {wb:Int} (h:Fresh w g wb) (S:Nat->Prop) (hg: ¬S g):Fd w g wb (fpoly wb) S:=⟨hg, .inl h⟩
theorem gf_New.calls (wb : Int) (hw : wb = 8 \/ wb = 16) (W : World) :
  Calls Tryz.prog 81 #[.int .i64 wb, .int .u32 (fpoly wb)] W fun e w'=> ∃g:Nat,e= .returned (.pointer (some ⟨g,0,none⟩))/\Fresh w' g wb/\W.heap.size<=g/\Below W.heap.size W w':=by
 rcases hw with rfl|rfl
 ·have HP:=Za prim8;have HD:=Za deg8;show Calls Tryz.prog 81 #[.int .i64 8, .int .u32 285] W _;go_enter Tryz.func81,Tryz.ntmps81
  go_wp2_with (first|(go_at_call 124;refine (cez.calls _ _ _ HD.out).mono ?_;rintro e w9 ⟨rfl,m9,rfl⟩)|(go_at_call 125;refine (brz.calls 400 _ _ _ HP.out).mono ?_;rintro e w9 ⟨rfl,hB⟩))
  go_ret;exact ⟨_,rfl,heap_alloc_new _ _,hB.size,anz (w:=W) ⟨hB.os,hB.tape,hB.output,hB.size,hB.block⟩ _⟩
 ·have HP:=Za prim16;have HD:=Za deg16;show Calls Tryz.prog 81 #[.int .i64 16, .int .u32 69643] W _;go_enter Tryz.func81,Tryz.ntmps81
  go_wp2_with (first|(go_at_call 124;refine (cez.calls _ _ _ HD.out).mono ?_;rintro e w9 ⟨rfl,m9,rfl⟩)|(go_at_call 125;refine (brz.calls 1500 _ _ _ HP.out).mono ?_;rintro e w9 ⟨rfl,hB⟩))
  go_ret;exact ⟨_,rfl,heap_alloc_new _ _,hB.size,anz (w:=W) ⟨hB.os,hB.tape,hB.output,hB.size,hB.block⟩ _⟩
def pbits (p:Int):Int:=if p=2 then 16 else 8
theorem eqz (p:Int):pbits p=8\/pbits p=16:=by unfold pbits;split<;>simp
theorem profile_told {p:Int} (h:1<=p/\p<=6): ∃s l m,bsz.f p=some (s,pbits p,fpoly (pbits p),l,m,true):=by
 obtain ⟨h1,h2⟩:=h;have:p=1\/p=2\/p=3\/p=4\/p=5\/p=6:=by omega
 rcases this with rfl|rfl|rfl|rfl|rfl|rfl<;>exact ⟨_,_,_,rfl⟩
theorem e1z.calls (p : Int) (h : 1 <= p /\ p <= 6) (W : World) :
  Calls Tryz.prog 45 #[.int .i64 p] W fun e w'=> ∃g:Nat,e= .returned (.pointer (some ⟨g,0,none⟩))/\Fresh w' g (pbits p)/\W.heap.size<=g/\Below W.heap.size W w':=by
 obtain ⟨s,l,m,h0⟩:=profile_told h;have H0:=Za h0;have HN:=Za (gf_New.calls (pbits p) (eqz p));generalize pbits p=wb at H0 HN|-;generalize fpoly wb=q at H0 HN;clear h h0;go_enter Tryz.func45,Tryz.ntmps45
 go_wp2_with (first|(go_at_call 75;refine (bsz.calls p _ _ _ _ _ _ _ H0.out).mono ?_;rintro e w9 ⟨rfl,hB⟩)|(go_at_call 81;refine (HN.out _).mono ?_;rintro e w8 ⟨g,rfl,q1,q2,q3⟩))
 go_ret;have e1:=hB.size;exact ⟨g,rfl,q1,by simp at q2;omega,(anz hB _).trans (q3.mono (by simp;omega))⟩
def idxF {α:Type} (p:α->Bool):List α->Int
 | [] => -1
 |x::l=>if p x then 0 else if idxF p l<0 then -1 else idxF p l+1
theorem dFz {α:Type} (p:α->Bool): ∀l:List α, -1<=idxF p l/\idxF p l<l.length/\(idxF p l<0↔l.any p=false)
 | [] =>by simp [idxF]
 |x::l=>by
  have h:=dFz p l;unfold idxF
  cases hx:p x with
  |true=>simp [hx]
  |false=>
   simp only [Bool.false_eq_true,if_false,List.any_cons,hx,Bool.false_or,List.length_cons];refine ⟨?_,?_,?_⟩
   ·split<;>omega
   ·split<;>omega
   ·rw [<-h.2.2];split<;>omega
theorem idxF_any {α : Type} (p : α -> Bool) (l : List α) : decide (0 <= idxF p l) = l.any p := by
  have h:=dFz p l
  cases ha:l.any p with
  | true => have : ¬ idxF p l < 0 := fun hh => by rw [h.2.2.1 hh] at ha; cases ha
            exact Zd (by omega)
  |false=>exact Ze (by have:=h.2.2.2 ha;omega)
theorem idxF_at {α:Type} (p:α->Bool): ∀(l:List α) (k:Nat) (x:α),l[k]?=some x->(l.take k).any p=false->p x=true->idxF p l=k
 | [],k,x,h,_,_=>by simp at h
 |y::l,0,x,h,_,hp=>by
  obtain rfl:y=x:=by simpa using h
  simp [idxF,hp]
 |y::l,k+1,x,h,ha,hp=>by
  simp only [List.take_succ_cons,List.any_cons,Bool.or_eq_false_iff] at ha;have:=idxF_at p l k x (by simpa using h) ha.2 hp;unfold idxF;rw [ha.1,this];simp only [Bool.false_eq_true,if_false];rw [Yb (by omega)];omega
theorem idxF_none {α:Type} (p:α->Bool) (l:List α) (h:l.any p=false):idxF p l= -1:=by
 have h1:=dFz p l;have:=h1.2.2.2 h;omega
theorem eaz {α:Type} (p:α->Bool) (l:List α) (k:Nat) (x:α) (h:l[k]?=some x):(l.take (k+1)).any p=((l.take k).any p||p x):=by
 rw [List.take_add_one,h];simp
theorem cqz {α : Type} {d : Kd α} {e : Nat} {W : World} {A : Option Addr} {rows : List (List α)} (h : Kd.C (Kd.slice e d) W A rows.length rows) (k : Nat) (x : List α) (hx : rows[k]? = some x) :
  ∃ad A' c',A=some ad/\W.cell? (ad.add k)=some (.slice A' x.length c')/\x.length<=c'/\Kd.C d W A' x.length x:=by
 have hlt:=(Zk hx).1;obtain ⟨ad,c,hA,hl,hK,hc⟩:=Kd.C_get h ([] :List α) (k:Int) (by omega) (by omega);rw [Zu,Zm,hx] at hK;obtain ⟨A',c',rfl,hle,hC⟩:=hK;refine ⟨ad,A',c',hA,?_,hle,hC⟩;have:=hc 0 _ rfl;rwa [show (k:Int).toNat*(Kd.slice e d).sz+0=k from by show (k:Int).toNat*1+0=k;omega] at this
theorem cvz {k:IntKind} {W:World} {A:Option Addr} {l:List Int} (h:Kd.C (Kd.int k) W A l.length l) (j:Nat) (x:Int) (hx:l[j]?=some x): ∃ad,A=some ad/\W.cell? (ad.add j)=some (.int k x):=by
 have hlt:=(Zk hx).1;obtain ⟨ad,c,hA,hl,hK,hc⟩:=Kd.C_get h 0 (j:Int) (by omega) (by omega);rw [Zu,Zm,hx] at hK;refine ⟨ad,hA,?_⟩;have hK':c= [.int k x] :=hK;subst hK';have:=hc 0 _ rfl;rwa [show (j:Int).toNat*(Kd.int k).sz+0=j from by show (j:Int).toNat*1+0=j;omega] at this
theorem idx_May11.calls (p : Int -> Bool) (q0 : Value) (A : Option Addr) (c : Nat) (l : List Int) (W : World) (hr : Kd.C (Kd.int .i64) W A l.length l) (hl : l.length <= 1000000)
  (hp: ∀(m:Nat) (x:Int),x∈l->Calls Tryz.prog 173 #[.int .i64 x,q0] (W.drewN m) fun e w'=>e= .returned (.bool (p x))/\Drawn0 (W.drewN m) w'):
  Calls Tryz.prog 189 #[.slice A l.length c, .func (.func 173) #[] #[q0]] W fun e w'=>e= .returned (.int .i64 (idxF p l))/\Drawn0 W w':=by
 have HR:=Za hr;have HP:=Za hp;clear hr hp;go_enter Tryz.func189,Tryz.ntmps189;go_wp2
 go_loopw [8] (fun i wr=> ∃k m:Nat,k<=l.length/\i= .int .i64 k/\wr=W.drewN m/\Aside0 ((l.take k).any p=false)) (fun i _=>l.length - (intOf i).toNat)
 case atStart=>exact ⟨0,0,Nat.zero_le _,rfl,rfl,⟨rfl⟩⟩
 obtain ⟨k,m,hk,rfl,rfl,HA⟩:=hrel;by_cases hlt:k<l.length
 ·obtain ⟨x,hx⟩: ∃x,l[k]?=some x:=⟨_,Zf hlt⟩;obtain ⟨ad,rfl,hcell⟩:=cvz HR.out k x hx;have HX:=Za hx;clear hx
  cases hpx:p x with
  |true=>
   have HI:=Za (idxF_at p l k x HX.out HA.out hpx);have HPX:=Za hpx;clear hpx
   go_wp2_with (first|(go_at_call 173;refine (HP.out _ x (Zo HX.out)).mono ?_;rintro e w9 ⟨rfl,m9,rfl⟩;rw [HPX.out]))
   go_ret;refine ⟨?_,dn_⟩;rw [HI.out];rfl
  |false=>
   have HA1:=Za (show (l.take (k+1)).any p=false by rw [eaz p l k x HX.out,HA.out,hpx];rfl);have HPX:=Za hpx;clear hpx
   go_wp2_with (first|(go_at_call 173;refine (HP.out _ x (Zo HX.out)).mono ?_;rintro e w9 ⟨rfl,m9,rfl⟩;rw [HPX.out]))
   go_roundw
   case rel=>exact ⟨k+1,m+m9,by omega,by go_num,by simp [World.drewN_drewN],HA1⟩
   case measure=>simp [intOf];omega
 ·obtain rfl:k=l.length:=by omega
  have HI:=Za (idxF_none p l (by have:=HA.out;rwa [List.take_length] at this));go_wp2;go_ret;refine ⟨?_,dn_⟩;rw [HI.out];rfl
theorem con_May11.calls (p : Int -> Bool) (q0 : Value) (A : Option Addr) (c : Nat) (l : List Int) (W : World) (hr : Kd.C (Kd.int .i64) W A l.length l) (hl : l.length <= 1000000)
  (hp: ∀(m:Nat) (x:Int),x∈l->Calls Tryz.prog 173 #[.int .i64 x,q0] (W.drewN m) fun e w'=>e= .returned (.bool (p x))/\Drawn0 (W.drewN m) w'):
  Calls Tryz.prog 172 #[.slice A l.length c, .func (.func 173) #[] #[q0]] W fun e w'=>e= .returned (.bool (l.any p))/\Drawn0 W w':=by
 have HC:=Za (idx_May11.calls p q0 A c l W hr hl hp);have HA:=Za (idxF_any p l);clear hr hp;obtain ⟨z,hz⟩: ∃z,idxF p l=z:=⟨_,rfl⟩;rw [hz] at HC HA;rw [<-HA.out];clear hz HA;go_enter Tryz.func172,Tryz.ntmps172
 go_wp2_with (first|(go_at_call 189;refine HC.out.mono ?_;rintro e w9 ⟨rfl,m9,rfl⟩))
 go_ret;exact ⟨rfl,dn_⟩
theorem idx_May1.calls (p : List Int -> Bool) (q0 q1 : Value) (A : Option Addr) (c : Nat) (l : List (List Int)) (W : World) (hr : Kd.C (Kd.slice 3 (Kd.int .i64)) W A l.length l) (hl : l.length <= 1000000)
  (hp: ∀(m:Nat) (x:List Int) (A':Option Addr) (c':Nat),x∈l->x.length<=c'->Kd.C (Kd.int .i64) W A' x.length x->Calls Tryz.prog 171 #[.slice A' x.length c',q0,q1] (W.drewN m) fun e w'=>e= .returned (.bool (p x))/\Drawn0 (W.drewN m) w'):
  Calls Tryz.prog 175 #[.slice A l.length c, .func (.func 171) #[] #[q0,q1]] W fun e w'=>e= .returned (.int .i64 (idxF p l))/\Drawn0 W w':=by
 have HR:=Za hr;have HP:=Za hp;clear hr hp;go_enter Tryz.func175,Tryz.ntmps175;go_wp2
 go_loopw [8] (fun i wr=> ∃k m:Nat,k<=l.length/\i= .int .i64 k/\wr=W.drewN m/\Aside0 ((l.take k).any p=false)) (fun i _=>l.length - (intOf i).toNat)
 case atStart=>exact ⟨0,0,Nat.zero_le _,rfl,rfl,⟨rfl⟩⟩
 obtain ⟨k,m,hk,rfl,rfl,HA⟩:=hrel;by_cases hlt:k<l.length
 ·obtain ⟨x,hx⟩: ∃x,l[k]?=some x:=⟨_,Zf hlt⟩;obtain ⟨ad,A',c',rfl,hcell,hle,hC⟩:=cqz HR.out k x hx;have HC:=Za hC;have HLE:=Za hle;clear hC hle;have HX:=Za hx;clear hx
  cases hpx:p x with
  |true=>
   have HI:=Za (idxF_at p l k x HX.out HA.out hpx);have HPX:=Za hpx;clear hpx
   go_wp2_with (first|(go_at_call 171;refine (HP.out _ x A' c' (Zo HX.out) HLE.out HC.out).mono ?_;rintro e w9 ⟨rfl,m9,rfl⟩;rw [HPX.out]))
   go_ret;refine ⟨?_,dn_⟩;rw [HI.out];rfl
  |false=>
   have HA1:=Za (show (l.take (k+1)).any p=false by rw [eaz p l k x HX.out,HA.out,hpx];rfl);have HPX:=Za hpx;clear hpx
   go_wp2_with (first|(go_at_call 171;refine (HP.out _ x A' c' (Zo HX.out) HLE.out HC.out).mono ?_;rintro e w9 ⟨rfl,m9,rfl⟩;rw [HPX.out]))
   go_roundw
   case rel=>exact ⟨k+1,m+m9,by omega,by go_num,by simp [World.drewN_drewN],HA1⟩
   case measure=>simp [intOf];omega
 ·obtain rfl:k=l.length:=by omega
  have HI:=Za (idxF_none p l (by have:=HA.out;rwa [List.take_length] at this));go_wp2;go_ret;refine ⟨?_,dn_⟩;rw [HI.out];rfl
theorem con_May1.calls (p : List Int -> Bool) (q0 q1 : Value) (A : Option Addr) (c : Nat) (l : List (List Int)) (W : World) (hr : Kd.C (Kd.slice 3 (Kd.int .i64)) W A l.length l) (hl : l.length <= 1000000)
  (hp: ∀(m:Nat) (x:List Int) (A':Option Addr) (c':Nat),x∈l->x.length<=c'->Kd.C (Kd.int .i64) W A' x.length x->Calls Tryz.prog 171 #[.slice A' x.length c',q0,q1] (W.drewN m) fun e w'=>e= .returned (.bool (p x))/\Drawn0 (W.drewN m) w'):
  Calls Tryz.prog 170 #[.slice A l.length c, .func (.func 171) #[] #[q0,q1]] W fun e w'=>e= .returned (.bool (l.any p))/\Drawn0 W w':=by
 have HC:=Za (idx_May1.calls p q0 q1 A c l W hr hl hp);have HA:=Za (idxF_any p l);clear hr hp;obtain ⟨z,hz⟩: ∃z,idxF p l=z:=⟨_,rfl⟩;rw [hz] at HC HA;rw [<-HA.out];clear hz HA;go_enter Tryz.func170,Tryz.ntmps170
 go_wp2_with (first|(go_at_call 175;refine HC.out.mono ?_;rintro e w9 ⟨rfl,m9,rfl⟩))
 go_ret;exact ⟨rfl,dn_⟩
theorem idx_reduce2.calls (p : List Int -> Bool) (q0 : Value) (A : Option Addr) (c : Nat) (l : List (List Int)) (W : World) (hr : Kd.C (Kd.slice 3 (Kd.int .i64)) W A l.length l) (hl : l.length <= 1000000)
  (hp: ∀(m:Nat) (x:List Int) (A':Option Addr) (c':Nat),x∈l->x.length<=c'->Kd.C (Kd.int .i64) W A' x.length x->Calls Tryz.prog 176 #[.slice A' x.length c',q0] (W.drewN m) fun e w'=>e= .returned (.bool (p x))/\Drawn0 (W.drewN m) w'):
  Calls Tryz.prog 175 #[.slice A l.length c, .func (.func 176) #[] #[q0]] W fun e w'=>e= .returned (.int .i64 (idxF p l))/\Drawn0 W w':=by
 have HR:=Za hr;have HP:=Za hp;clear hr hp;go_enter Tryz.func175,Tryz.ntmps175;go_wp2
 go_loopw [8] (fun i wr=> ∃k m:Nat,k<=l.length/\i= .int .i64 k/\wr=W.drewN m/\Aside0 ((l.take k).any p=false)) (fun i _=>l.length - (intOf i).toNat)
 case atStart=>exact ⟨0,0,Nat.zero_le _,rfl,rfl,⟨rfl⟩⟩
 obtain ⟨k,m,hk,rfl,rfl,HA⟩:=hrel;by_cases hlt:k<l.length
 ·obtain ⟨x,hx⟩: ∃x,l[k]?=some x:=⟨_,Zf hlt⟩;obtain ⟨ad,A',c',rfl,hcell,hle,hC⟩:=cqz HR.out k x hx;have HC:=Za hC;have HLE:=Za hle;clear hC hle;have HX:=Za hx;clear hx
  cases hpx:p x with
  |true=>
   have HI:=Za (idxF_at p l k x HX.out HA.out hpx);have HPX:=Za hpx;clear hpx
   go_wp2_with (first|(go_at_call 176;refine (HP.out _ x A' c' (Zo HX.out) HLE.out HC.out).mono ?_;rintro e w9 ⟨rfl,m9,rfl⟩;rw [HPX.out]))
   go_ret;refine ⟨?_,dn_⟩;rw [HI.out];rfl
  |false=>
   have HA1:=Za (show (l.take (k+1)).any p=false by rw [eaz p l k x HX.out,HA.out,hpx];rfl);have HPX:=Za hpx;clear hpx
   go_wp2_with (first|(go_at_call 176;refine (HP.out _ x A' c' (Zo HX.out) HLE.out HC.out).mono ?_;rintro e w9 ⟨rfl,m9,rfl⟩;rw [HPX.out]))
   go_roundw
   case rel=>exact ⟨k+1,m+m9,by omega,by go_num,by simp [World.drewN_drewN],HA1⟩
   case measure=>simp [intOf];omega
 ·obtain rfl:k=l.length:=by omega
  have HI:=Za (idxF_none p l (by have:=HA.out;rwa [List.take_length] at this));go_wp2;go_ret;refine ⟨?_,dn_⟩;rw [HI.out];rfl
theorem d5z (ad:Addr):ad.add 0=ad:=by unfold Addr.add;split<;>simp_all
structure MayOk (wb:Int) (rows:List (List Int)) (cols:Nat):Prop where
 n1:1<=rows.length
 n2:rows.length<=20
 c1:1<=cols
 c2:cols<=20
 each: ∀row,row∈rows->row.length=cols/\ ∀x,x∈row->0<=x/\x<fsize wb
theorem may11.calls (g fb : Nat) (S : Nat -> Prop) (wb p x : Int) (W : World) (hw : wb = 8 \/ wb = 16) (hF : Fd W g wb p S) (hb : W.cell? ⟨fb, 0, none⟩ = some (.pointer (some ⟨g, 0, none⟩))) (hx : 0 <= x /\ x < fsize wb) :
  Calls Tryz.prog 173 #[.int .i64 x, .pointer (some ⟨fb,0,none⟩)] W fun e w'=>e= .returned (.bool false)/\Drawn0 W w':=by
 have HF:=Za hF;have HW:=Za hw;have h1:decide (x<0)=false:=Ze (by omega);have h2:decide (fsize wb<=x)=false:=Ze (by omega);clear hF hw hx;go_enter Tryz.func173,Tryz.ntmps173
 go_wp2_with (first|(go_at_call 150;refine (eiz.calls g wb p S _ HF.out HW.out).mono ?_;rintro e w9 ⟨rfl,m9,rfl⟩))
 go_ret;exact ⟨rfl,dn_⟩
theorem may1.calls (g fb ab : Nat) (S : Nat -> Prop) (wb p : Int) (A A0 A' : Option Addr) (n0 c0 c' : Nat) (cols : Nat) (rows : List (List Int)) (x : List Int) (W : World) (hw : wb = 8 \/ wb = 16) (hM : MayOk wb rows cols) (hF : Fd W g wb p S) (hb : W.cell? ⟨fb, 0, none⟩ = some (.pointer (some ⟨g, 0, none⟩)))
  (ha:W.cell? ⟨ab,0,none⟩=some (.slice A rows.length c0)) (hC:Kd.C (Kd.slice 3 (Kd.int .i64)) W A rows.length rows) (hx:x∈rows) (hX:Kd.C (Kd.int .i64) W A' x.length x):
  Calls Tryz.prog 171 #[.slice A' x.length c', .pointer (some ⟨ab,0,none⟩), .pointer (some ⟨fb,0,none⟩)] W fun e w'=>e= .returned (.bool false)/\Drawn0 W w':=by
 obtain ⟨r0,hr0⟩: ∃r,rows[0]?=some r:=⟨_,Zf (by have:=hM.n1;omega)⟩;obtain ⟨ad,A1,c1,rfl,hcell,hle,hC0⟩:=cqz hC 0 r0 hr0;have l0:=(hM.each r0 (Zo hr0)).1;have lx:=(hM.each x hx).1;have hc2:=hM.c2;have HC:=Za (con_May11.calls (fun _=>false) (.pointer (some ⟨fb,0,none⟩)) A' c' x W hX (by omega) (fun m y hy=>may11.calls g fb S wb p y _ hw (hF.drewN m) hb ((hM.each x hx).2 y hy)));have hany:x.any (fun _=>false)=false:=by simp
 rw [hany] at HC;rw [l0] at hcell;rw [lx] at HC;rw [lx];have n1:(0:Int)<(rows.length:Int):=by have:=hM.n1;omega
 have hcell':W.cell? ad=some (.slice A1 cols c1):=by rwa [d5z] at hcell
 have hself:((cols:Int) !=(cols:Int))=false:=by simp
 have hmf: ∀(fn:Fn) (first cap:Array Value) (w:World),(Instr.makeFunc fn first cap).run Tryz.prog w= .ok (.func fn first cap) w:=fun _ _ _ _=>rfl
 generalize rows.length=nr at ha n1;clear hM hF hC hx hX hr0 hC0 l0 lx hc2 hany hle hcell;go_enter Tryz.func171,Tryz.ntmps171
 go_wp2_with (first|(go_at_call 172;refine HC.out.mono ?_;rintro e w9 ⟨rfl,m9,rfl⟩))
 go_ret;exact ⟨rfl,dn_⟩
theorem eQz.ok (g : Nat) (S : Nat -> Prop) (wb p : Int) (A : Option Addr) (c cols : Nat) (rows : List (List Int)) (W : World) (hw : wb = 8 \/ wb = 16) (hM : MayOk wb rows cols) (hF : Fd W g wb p S) (hC : Kd.C (Kd.slice 3 (Kd.int .i64)) W A rows.length rows) :
  Calls Tryz.prog 138 #[.pointer (some ⟨g,0,none⟩), .slice A rows.length c] W fun e w'=>e= .returned (.bool true)/\Below W.heap.size W w':=by
 have hb1:Below W.heap.size W ((W.alloc (.cells #[.pointer (some ⟨g,0,none⟩)] 72)).alloc (.cells #[.slice A rows.length c] 69)):=anz (anz (Zw _ _) _) _;have hF1:=hF.below hb1;have hC1:=Kd.azz hC hb1;have hc1:((W.alloc (.cells #[.pointer (some ⟨g,0,none⟩)] 72)).alloc (.cells #[.slice A rows.length c] 69)).cell? ⟨W.heap.size,0,none⟩=some (.pointer (some ⟨g,0,none⟩)):=(abz (bGz (dDz W _) _) 0).trans rfl;have hc2:((W.alloc (.cells #[.pointer (some ⟨g,0,none⟩)] 72)).alloc (.cells #[.slice A rows.length c] 69)).cell? ⟨W.heap.size+1,0,none⟩=some (.slice A rows.length c):=(abz (cFz _ _ _ (by simp)) 0).trans rfl;have hany:rows.any (fun _=>false)=false:=by simp
 have HC:=Za (fun (m0:Nat)=>con_May1.calls (fun _=>false) (.pointer (some ⟨W.heap.size+1,0,none⟩)) (.pointer (some ⟨W.heap.size,0,none⟩)) A c rows _ (Kd.bDz hC1 m0) (by have:=hM.n2;omega) (fun m x A' c' hx hxc hX=>may1.calls g W.heap.size (W.heap.size+1) S wb p A A A' rows.length c c' cols rows x _ hw hM ((hF1.drewN m0).drewN m) hc1 hc2 (Kd.bDz (Kd.bDz hC1 m0) m) hx (Kd.bDz hX m)));rw [hany] at HC;obtain ⟨r0,hr0⟩: ∃r,rows[0]?=some r:=⟨_,Zf (by have:=hM.n1;omega)⟩;obtain ⟨ad,A1,c1,rfl,hcell,hle,hC0⟩:=cqz hC 0 r0 hr0;have l0:=(hM.each r0 (Zo hr0)).1;rw [l0] at hcell;have hcell':W.cell? ad=some (.slice A1 cols c1):=by rwa [d5z] at hcell
 have hcell2:=bJz hb1 hcell';have hw1:b3z.f (rows.length:Int)=some true:=by unfold b3z.f;rw [Ya (by have:=hM.n1;omega),Zd (by have:=hM.n2;omega)]
 have hw2:b3z.f (cols:Int)=some true:=by unfold b3z.f;rw [Ya (by have:=hM.c1;omega),Zd (by have:=hM.c2;omega)]
 have n1:(0:Int)<(rows.length:Int):=by have:=hM.n1;omega
 have hmf: ∀(fn:Fn) (first cap:Array Value) (w:World),(Instr.makeFunc fn first cap).run Tryz.prog w= .ok (.func fn first cap) w:=fun _ _ _ _=>rfl
 have HB:=Za hb1;have H1:=Za hw1;have H2:=Za hw2
 generalize rows.length=nr at *
 clear hM hF hC hF1 hC1 hr0 hC0 l0 hany hle hcell hcell' hw1 hw2 hb1;go_enter Tryz.func138,Tryz.ntmps138
 go_wp2_with (first|(go_at_call_of 139 (Value.int .i64 (nr:Int));refine (b3z.calls _ _ _ H1.out).mono ?_;rintro e w9 ⟨rfl,m9,rfl⟩)|(go_at_call 139;refine (b3z.calls _ _ _ H2.out).mono ?_;rintro e w9 ⟨rfl,m8,rfl⟩)|(go_at_call 170;refine (HC.out _).mono ?_;rintro e w9 ⟨rfl,m7,rfl⟩))
 go_ret;exact ⟨rfl,by repeat (first|exact HB.out|apply a0z)⟩
theorem reads_C {k:IntKind} {W:World} {A:Option Addr} {l:List Int} (h:Kd.C (Kd.int k) W A l.length l):ReadsInt W k A l.length l:=by
 refine ⟨rfl,h.2.1,fun hn=> ?_⟩;obtain ⟨ad,hA,_⟩:=h.2.2 hn;refine ⟨ad,hA,fun j hj=> ?_⟩;obtain ⟨ad',hA',hc⟩:=cvz h j l[j] (Zf hj);rw [hA] at hA';cases hA'
 rw [hc,Zm,Zf hj];rfl
theorem c6z {k:IntKind} {e:Nat} {W:World} {base:Nat} {v:Value} {xs:List Int} (h:W.ownsRow base e 1 v xs.length (nums k xs)):Kd.R (Kd.int k) e W base (fun _=>True) v xs:=
 ⟨fun _ _=>trivial,nums k xs,h,by rw [nums_length];exact (Nat.mul_one _).symm,fun j p hj=>by
  obtain ⟨hlt,rfl⟩:=Zk hj;show ((nums k xs).drop (j*1)).take 1= [Value.int k xs[j]];rw [Nat.mul_one,List.drop_eq_getElem_cons (by simp [nums];exact hlt)]
  simp [nums]⟩
theorem A_none {α:Type} {d:Kd α} {W:World} {n:Nat} {xs:List α} (h:Kd.C d W none n xs):n=0:=by
 rcases Nat.eq_zero_or_pos n with h0|h0
 ·exact h0
 ·obtain ⟨ad,e,_⟩:=h.2.2 h0;cases e
theorem clone_i.calls (A : Option Addr) (c : Nat) (l : List Int) (W : World) (hC : Kd.C (Kd.int .i64) W A l.length l) (hl : l.length <= 1000000) :
  Calls Tryz.prog 141 #[.slice A l.length c] W fun e w'=> ∃v,e= .returned v/\Kd.R (Kd.int .i64) 3 w' W.heap.size (fun _=>True) v l/\Below W.heap.size W w':=by
 cases A with
 |none=>
  obtain rfl:l= [] :=List.eq_nil_of_length_eq_zero (A_none hC);have hnil:=fun (w:World)=>Lib.run_eql_slice_nil (P:=Tryz.prog) w 57 3 none 0 c 0 0 Tryz.underlying57
  go_enter Tryz.func141,Tryz.ntmps141;go_wp2;go_ret;exact ⟨_,rfl,Kd.R_nil _ _ _ _ _,Zw _ _⟩
 |some ad=>
  have HR:=Za (reads_C hC);clear hC;have hnil:=fun (w:World)=>Lib.run_eql_slice_nil (P:=Tryz.prog) w 57 3 (some ad) l.length c 0 0 Tryz.underlying57
  have HO:=Za (World.ownsRow_lit (base:=W.heap.size) (e:=3) (size:=1) W #[] 0 (Zv _) (by decide) rfl);have HB:=Za (anz (Zw W.heap.size W) (.cells #[] 3));go_enter Tryz.func141,Tryz.ntmps141
  go_wp2_with ((with_reducible refine aoz (b:= .append) (xs:= #[.tmp 5, .tmp 6]) rfl ?_);at_builtin;refine c4z (w0:=W) W.heap.size rfl (.tmp 5) (.tmp 6) 57 3 .i64 8 rfl Tryz.underlying57 kr_ (by decide) _ [] l (some ad) l.length c rfl rfl ?aO ?aR ?aB ?aS ?aL ?_;(case aO=>exact HO.out);(case aR=>exact HR.out.below (anz (Zw _ _) _));(case aB=>exact HB.out);(case aS=>simp);(case aL=>simp;omega);intro v1 w1 ho1 hb1 hg1 hat1;have HO1:=Za ho1;have HB1:=Za hb1;clear ho1 hb1 hg1 hat1)
  go_ret;exact ⟨_,rfl,c6z HO1.out,HB1.out⟩
theorem own_cut0 {W:World} {base e size g n c:Nat} {xs:List Value} (h:W.ownsRow base e size (.slice (some ⟨g,0,none⟩) n c) n xs):W.ownsRow base e size (.slice (some ⟨g,0,none⟩) 0 c) 0 [] :=by
 obtain ⟨h1,h2|⟨g',cap,cur,he,hb,hh,h3,h4,h5,h6⟩⟩:=h
 ·cases h2.1
 ·injection he with e1 e2 e3
  injection e1 with e1
  injection e1 with e1
  subst e1;subst e3;exact ⟨by simp, .inr ⟨g,c,cur,rfl,hb,hh,Nat.zero_le _,h4,h5,by simp⟩⟩
theorem grow_i.calls (n : Nat) (W : World) (hn : n <= 1000000) :
  Calls Tryz.prog 182 #[.slice none 0 0, .int .i64 (n:Int)] W fun e w'=> ∃v,e= .returned v/\w'.ownsRow W.heap.size 3 1 v 0 [] /\Below W.heap.size W w':=by
 have n0:decide ((n:Int)<0)=false:=Ze (by omega);by_cases h0:n=0
 ·subst h0;go_enter Tryz.func182,Tryz.ntmps182;go_wp2;go_ret;exact ⟨_,rfl,own_nil _ _ _ _,Zw _ _⟩
 ·have p0:(0:Int)<(n:Int):=by omega
  have p1: ¬((n:Int)<0):=by omega
  have HB:=Za (Zw W.heap.size W);go_enter Tryz.func182,Tryz.ntmps182
  go_wp2_with ((with_reducible refine aoz (b:= .append) (xs:= #[.tmp 20, .tmp 21]) rfl ?_);at_builtin;refine Kd.eNz (Kd.int .i64) (w0:=W) W.heap.size rfl (.tmp 20) (.tmp 21) 57 3 3 (.int .i64 0) 8 rfl Tryz.underlying57 Tryz.underlying3 kr_ rfl (by decide) (by decide) _ [] 0 (n:Int) (fun _=>True) rfl rfl ?aZ (fun _ _=>trivial) (Kd.R_nil _ _ _ _ _) ?a0 HB.out (Zv _) ?aL ?_;(case aZ=>exact rfl);(case a0=>omega);(case aL=>simp;omega);intro v1 w1 ho1 hb1 hg1 hat1;obtain ⟨g,cc,rfl, -, -, -⟩:=Kd.dHz ho1 (by simp;omega);obtain ⟨inner,hown⟩:=Kd.R_own ho1;have HO1:=Za (own_cut0 hown);have HB1:=Za hb1;have hcc:0<=cc:=Nat.zero_le _;clear ho1 hb1 hg1 hat1 hown)
  go_ret;exact ⟨_,rfl,HO1.out,HB1.out⟩
theorem grow_b.calls (n : Nat) (W : World) (hn : n <= 1000000) :
  Calls Tryz.prog 169 #[.slice none 0 0, .int .i64 (n:Int)] W fun e w'=> ∃v,e= .returned v/\w'.ownsRow W.heap.size 5 1 v 0 [] /\Below W.heap.size W w':=by
 have n0:decide ((n:Int)<0)=false:=Ze (by omega);by_cases h0:n=0
 ·subst h0;go_enter Tryz.func169,Tryz.ntmps169;go_wp2;go_ret;exact ⟨_,rfl,own_nil _ _ _ _,Zw _ _⟩
 ·have p0:(0:Int)<(n:Int):=by omega
  have p1: ¬((n:Int)<0):=by omega
  have HB:=Za (Zw W.heap.size W);go_enter Tryz.func169,Tryz.ntmps169
  go_wp2_with ((with_reducible refine aoz (b:= .append) (xs:= #[.tmp 20, .tmp 21]) rfl ?_);at_builtin;refine Kd.eNz (Kd.int .u8) (w0:=W) W.heap.size rfl (.tmp 20) (.tmp 21) 34 3 5 (.int .u8 0) 1 rfl Tryz.underlying34 Tryz.underlying3 kr_ rfl (by decide) (by decide) _ [] 0 (n:Int) (fun _=>True) rfl rfl ?aZ (fun _ _=>trivial) (Kd.R_nil _ _ _ _ _) ?a0 HB.out (Zv _) ?aL ?_;(case aZ=>exact rfl);(case a0=>omega);(case aL=>simp;omega);intro v1 w1 ho1 hb1 hg1 hat1;obtain ⟨g,cc,rfl, -, -, -⟩:=Kd.dHz ho1 (by simp;omega);obtain ⟨inner,hown⟩:=Kd.R_own ho1;have HO1:=Za (own_cut0 hown);have HB1:=Za hb1;have hcc:0<=cc:=Nat.zero_le _;clear ho1 hb1 hg1 hat1 hown)
  go_ret;exact ⟨_,rfl,HO1.out,HB1.out⟩
theorem eDz (rows:List (List Int)) (k:Nat) (x:List Int) (hx:rows[k]?=some x):(rows.take (k+1)).flatten=(rows.take k).flatten++x:=by
 rw [List.take_add_one,hx];simp
theorem ejz (rows:List (List Int)) (k:Nat):(rows.take k).flatten.length<=rows.flatten.length:=by
 conv=>rhs;rw [<-List.take_append_drop k rows,List.flatten_append,List.length_append]
 omega
theorem concat_i.calls (A : Option Addr) (c : Nat) (rows : List (List Int)) (W : World) (hC : Kd.C (Kd.slice 3 (Kd.int .i64)) W A rows.length rows) (hr : rows.length <= 1000000) (hl : rows.flatten.length <= 1000000) :
  Calls Tryz.prog 159 #[.slice A rows.length c] W fun e w'=> ∃v,e= .returned v/\Kd.R (Kd.int .i64) 3 w' W.heap.size (fun _=>True) v rows.flatten/\Below W.heap.size W w':=by
 have HC:=Za hC;clear hC;go_enter Tryz.func159,Tryz.ntmps159;go_wp2
 go_loop [3,11] (fun s i=> ∃k z:Nat,k<=rows.length/\s= .int .i64 (z:Int)/\i= .int .i64 (k:Int)/\Aside0 (z=(rows.take k).flatten.length)) (fun _ i=>rows.length - (intOf i).toNat)
 case atStart=>exact ⟨0,0,Nat.zero_le _,rfl,rfl,⟨rfl⟩⟩
 obtain ⟨k,z,hk,rfl,rfl,HZ⟩:=hrel;have hz:z<=1000000:=by have:=ejz rows k;have:=HZ.out;omega
 by_cases hlt:k<rows.length
 ·obtain ⟨x,hx⟩: ∃x,rows[k]?=some x:=⟨_,Zf hlt⟩;obtain ⟨ad,A',c',rfl,hcell,hle,hCx⟩:=cqz HC.out k x hx;have HZ1:=Za (show z+x.length=(rows.take (k+1)).flatten.length by rw [eDz rows k x hx,List.length_append, <-HZ.out]);have hz1:z+x.length<=1000000:=by have:=ejz rows (k+1);have:=HZ1.out;omega
  have hn0:decide ((z:Int)+(x.length:Int)<0)=false:=Ze (by omega);have hn1: ¬((z:Int)+(x.length:Int)<0):=by omega
  clear hx hCx hle;go_wp2
  go_round
  case rel=>exact ⟨k+1,z+x.length,by omega,by go_num,by go_num,HZ1⟩
  case measure=>simp [intOf];omega
 ·obtain rfl:k=rows.length:=by omega
  clear hk hlt;have HG:=Za (grow_i.calls z W hz)
  go_wp2_with (first|(go_at_call 182;refine HG.out.mono ?_;rintro e w1 ⟨v,rfl,hv,hB⟩))
  have HV:=Za hv;have HB:=Za hB;clear hv hB HG
  go_loopw [6,27] (fun v i wr=> ∃k:Nat,k<=rows.length/\i= .int .i64 (k:Int)/\Aside0 (wr.ownsRow W.heap.size 3 1 v (rows.take k).flatten.length (nums .i64 (rows.take k).flatten))/\Aside0 (Below W.heap.size W wr)) (fun _ i _=>rows.length - (intOf i).toNat)
  case atStart=>exact ⟨0,Nat.zero_le _,rfl,HV,HB⟩
  clear HV HB;obtain ⟨k,hk,rfl,HV,HB⟩:=hrel;by_cases hlt:k<rows.length
  ·obtain ⟨x,hx⟩: ∃x,rows[k]?=some x:=⟨_,Zf hlt⟩;obtain ⟨ad,A',c',rfl,hcell,hle,hCx⟩:=cqz (Kd.azz HC.out HB.out) k x hx;have HX:=Za (eDz rows k x hx);have HCX:=Za (reads_C hCx);have HL:=Za (ejz rows (k+1));rw [HX.out,List.length_append] at HL;clear hx hCx hle
   go_wp2_with ((with_reducible refine aoz (b:= .append) (xs:= #[.tmp 31, .tmp 32]) rfl ?_);at_builtin;refine c4z (w0:=W) W.heap.size rfl (.tmp 31) (.tmp 32) 57 3 .i64 8 rfl Tryz.underlying57 kr_ (by decide) _ _ x A' x.length c' rfl rfl HV.out HCX.out HB.out HB.out.size ?aL ?_;(case aL=>have:=HL.out;omega);intro v1 w1 ho1 hb1 hg1 hat1;have HV1:=Za ho1;have HB1:=Za hb1;clear ho1 hb1 hg1 hat1)
   go_roundw
   case rel=>exact ⟨k+1,by omega,by go_num,⟨by rw [HX.out];exact HV1.out⟩,HB1⟩
   case measure=>simp [intOf];omega
  ·obtain rfl:k=rows.length:=by omega
   have HF:=Za (c6z HV.out);rw [List.take_length] at HF;go_wp2;go_ret;exact ⟨_,rfl,HF.out,HB.out⟩
theorem concat_b.calls (A : Option Addr) (c : Nat) (rows : List (List Int)) (W : World) (hC : Kd.C (Kd.slice 5 (Kd.int .u8)) W A rows.length rows) (hr : rows.length <= 1000000) (hl : rows.flatten.length <= 1000000) :
  Calls Tryz.prog 135 #[.slice A rows.length c] W fun e w'=> ∃v,e= .returned v/\Kd.R (Kd.int .u8) 5 w' W.heap.size (fun _=>True) v rows.flatten/\Below W.heap.size W w':=by
 have HC:=Za hC;clear hC;go_enter Tryz.func135,Tryz.ntmps135;go_wp2
 go_loop [3,11] (fun s i=> ∃k z:Nat,k<=rows.length/\s= .int .i64 (z:Int)/\i= .int .i64 (k:Int)/\Aside0 (z=(rows.take k).flatten.length)) (fun _ i=>rows.length - (intOf i).toNat)
 case atStart=>exact ⟨0,0,Nat.zero_le _,rfl,rfl,⟨rfl⟩⟩
 obtain ⟨k,z,hk,rfl,rfl,HZ⟩:=hrel;have hz:z<=1000000:=by have:=ejz rows k;have:=HZ.out;omega
 by_cases hlt:k<rows.length
 ·obtain ⟨x,hx⟩: ∃x,rows[k]?=some x:=⟨_,Zf hlt⟩;obtain ⟨ad,A',c',rfl,hcell,hle,hCx⟩:=cqz HC.out k x hx;have HZ1:=Za (show z+x.length=(rows.take (k+1)).flatten.length by rw [eDz rows k x hx,List.length_append, <-HZ.out]);have hz1:z+x.length<=1000000:=by have:=ejz rows (k+1);have:=HZ1.out;omega
  have hn0:decide ((z:Int)+(x.length:Int)<0)=false:=Ze (by omega);have hn1: ¬((z:Int)+(x.length:Int)<0):=by omega
  clear hx hCx hle;go_wp2
  go_round
  case rel=>exact ⟨k+1,z+x.length,by omega,by go_num,by go_num,HZ1⟩
  case measure=>simp [intOf];omega
 ·obtain rfl:k=rows.length:=by omega
  clear hk hlt;have HG:=Za (grow_b.calls z W hz)
  go_wp2_with (first|(go_at_call 169;refine HG.out.mono ?_;rintro e w1 ⟨v,rfl,hv,hB⟩))
  have HV:=Za hv;have HB:=Za hB;clear hv hB HG
  go_loopw [6,27] (fun v i wr=> ∃k:Nat,k<=rows.length/\i= .int .i64 (k:Int)/\Aside0 (wr.ownsRow W.heap.size 5 1 v (rows.take k).flatten.length (nums .u8 (rows.take k).flatten))/\Aside0 (Below W.heap.size W wr)) (fun _ i _=>rows.length - (intOf i).toNat)
  case atStart=>exact ⟨0,Nat.zero_le _,rfl,HV,HB⟩
  clear HV HB;obtain ⟨k,hk,rfl,HV,HB⟩:=hrel;by_cases hlt:k<rows.length
  ·obtain ⟨x,hx⟩: ∃x,rows[k]?=some x:=⟨_,Zf hlt⟩;obtain ⟨ad,A',c',rfl,hcell,hle,hCx⟩:=cqz (Kd.azz HC.out HB.out) k x hx;have HX:=Za (eDz rows k x hx);have HCX:=Za (reads_C hCx);have HL:=Za (ejz rows (k+1));rw [HX.out,List.length_append] at HL;clear hx hCx hle
   go_wp2_with ((with_reducible refine aoz (b:= .append) (xs:= #[.tmp 31, .tmp 32]) rfl ?_);at_builtin;refine c4z (w0:=W) W.heap.size rfl (.tmp 31) (.tmp 32) 34 5 .u8 1 rfl Tryz.underlying34 kr_ (by decide) _ _ x A' x.length c' rfl rfl HV.out HCX.out HB.out HB.out.size ?aL ?_;(case aL=>have:=HL.out;omega);intro v1 w1 ho1 hb1 hg1 hat1;have HV1:=Za ho1;have HB1:=Za hb1;clear ho1 hb1 hg1 hat1)
   go_roundw
   case rel=>exact ⟨k+1,by omega,by go_num,⟨by rw [HX.out];exact HV1.out⟩,HB1⟩
   case measure=>simp [intOf];omega
  ·obtain rfl:k=rows.length:=by omega
   have HF:=Za (c6z HV.out);rw [List.take_length] at HF;go_wp2;go_ret;exact ⟨_,rfl,HF.out,HB.out⟩
theorem square.ok (g : Nat) (S : Nat -> Prop) (wb p : Int) (A : Option Addr) (c : Nat) (rows : List (List Int)) (W : World) (hw : wb = 8 \/ wb = 16) (hM : MayOk wb rows rows.length) (hF : Fd W g wb p S) (hC : Kd.C (Kd.slice 3 (Kd.int .i64)) W A rows.length rows) :
  Calls Tryz.prog 142 #[.pointer (some ⟨g,0,none⟩), .slice A rows.length c] W fun e w'=>e= .returned (.bool true)/\Below W.heap.size W w':=by
 have HM:=Za (eQz.ok g S wb p A c rows.length rows W hw hM hF hC);obtain ⟨r0,hr0⟩: ∃r,rows[0]?=some r:=⟨_,Zf (by have:=hM.n1;omega)⟩;obtain ⟨ad,A1,c1,rfl,hcell,hle,hC0⟩:=cqz hC 0 r0 hr0;have l0:=(hM.each r0 (Zo hr0)).1;rw [l0,d5z] at hcell;have n1:(0:Int)<(rows.length:Int):=by have:=hM.n1;omega
 generalize rows.length=nr at *
 have hself:((nr:Int)==(nr:Int))=true:=by simp
 clear hM hF hC hr0 hC0 l0 hle;go_enter Tryz.func142,Tryz.ntmps142
 go_wp2_with (first|(go_at_call 138;refine HM.out.mono ?_;rintro e w1 ⟨rfl,hB⟩;have hcell1:=bJz hB hcell;have HB:=Za hB;clear hB))
 go_ret;exact ⟨rfl,HB.out⟩
abbrev dM (e:Nat) (k:IntKind):Kd (List Int):=Kd.slice e (Kd.int k)
theorem S_fresh {e t : Nat} {k : IntKind} {wr w1 : World} {B : Nat} {v u : Value} {xs : List (List Int)} {row : List Int} (HO : Kd.S (dM e k) t wr B (fun _ => True) v xs) (hb : Below wr.heap.size wr w1) (hB : B <= wr.heap.size) (hrow : Kd.R (Kd.int k) e w1 wr.heap.size (fun _ => True) u row) :
  Kd.S (dM e k) t w1 B (fun k'=>True/\ ¬wr.heap.size<=k') v xs/\(dM e k).M w1 B (fun k'=>wr.heap.size<=k') row [u] /\(∀k',wr.heap.size<=k'->True/\some k'≠v.ownBlock):=by
 refine ⟨?_,⟨u,rfl,?_⟩,fun k' hk=>⟨trivial,fun e'=> ?_⟩⟩
 ·have h1:=Kd.bVz HO;exact Kd.efz (Kd.cOz h1 (fun k' hk=>⟨trivial,by have:=hk.2.2.1;omega⟩)) hb
 ·exact Kd.bAz (Kd.aSz (Kd.cmz hrow) (fun k' hk=>hk.2.1)) hB
 ·have h1:=(Kd.bVz HO);obtain ⟨f,h0, -⟩:=h1;have:=(h0 k' e'.symm).2.2.1;omega
theorem zip_take {α β γ:Type} (f:α->β->γ): ∀(a:List α) (b:List β),List.zipWith f a b=List.zipWith f a (b.take a.length)
 | [],_=>by simp
 |_::_, [] =>by simp
 |x::a,y::b=>by simp [<-zip_take f a b]
theorem C_two {e t : Nat} {k : IntKind} {W : World} {g : Nat} {A B : Option Addr} {x y : List Int} {c d : Nat} (h : W.heap[g]? = some (.cells #[.slice A x.length c, .slice B y.length d] t (0, 0))) (hx : Kd.C (Kd.int k) W A x.length x) (hc : x.length <= c) (hy : Kd.C (Kd.int k) W B y.length y) (hd : y.length <= d) :
  Kd.C (dM e k) W (some ⟨g,0,none⟩) [x,y].length [x,y] :=by
 refine ⟨rfl,by simp,fun _=>⟨_,rfl,fun j p hp=> ?_⟩⟩
 have hadd: ∀j:Nat,(⟨g,0,none⟩:Addr).add (j*(dM e k).sz+0)=⟨g,j,none⟩:=fun j=>by
  show (⟨g,0,none⟩:Addr).add (j*1+0)=_;unfold Addr.add;split<;>simp_all
 match j,hp with
 |0,hp=>
  obtain rfl:x=p:=by simpa using hp
  refine ⟨[.slice A x.length c],rfl,⟨A,c,rfl,hc,hx⟩,fun i u hu=> ?_⟩
  cases i with
  |succ i=>simp at hu
  |zero=>
   obtain rfl:Value.slice A x.length c=u:=by simpa using hu
   rw [hadd 0,abz h 0];rfl
 |1,hp=>
  obtain rfl:y=p:=by simpa using hp
  refine ⟨[.slice B y.length d],rfl,⟨B,d,rfl,hd,hy⟩,fun i u hu=> ?_⟩
  cases i with
  |succ i=>simp at hu
  |zero=>
   obtain rfl:Value.slice B y.length d=u:=by simpa using hu
   rw [hadd 1,abz h 1];rfl
 |j+2,hp=>simp at hp
theorem beside.calls (A B : Option Addr) (c1 c2 n : Nat) (a b : List (List Int)) (W : World) (hA : Kd.C (dM 3 .i64) W A a.length a) (hB : Kd.C (dM 3 .i64) W B b.length b) (hla : a.length <= 1000) (hlb : a.length <= b.length) (hr : ∀ x, x ∈ a -> x.length <= 1000) (hr' : ∀ x, x ∈ b -> x.length <= 1000) :
  Calls Tryz.prog 143 #[.slice A a.length c1, .slice B b.length c2] W fun e w'=> ∃v,e= .returned v/\Kd.S (dM 3 .i64) 57 w' W.heap.size (fun _=>True) v (List.zipWith (· ++ ·) a b)/\Below W.heap.size W w':=by
 have HCA:=Za hA;have HCB:=Za hB;have HRA:=Za hr;have HRB:=Za hr';clear hA hB hr hr';go_enter Tryz.func143,Tryz.ntmps143;go_wp2
 go_loopw [5,10] (fun v i wr=> ∃k:Nat,k<=a.length/\i= .int .i64 (k:Int)/\Aside0 (Kd.S (dM 3 .i64) 57 wr W.heap.size (fun _=>True) v (List.zipWith (· ++ ·) (a.take k) (b.take k)))/\Aside0 (Below W.heap.size W wr)) (fun _ i _=>a.length - (intOf i).toNat)
 case atStart=>exact ⟨0,Nat.zero_le _,rfl,⟨Kd.S_nil _ _ _ _ _⟩,⟨Zw _ _⟩⟩
 obtain ⟨k,hk,rfl,HO,HB⟩:=hrel;by_cases hlt:k<a.length
 ·obtain ⟨x,hx⟩: ∃x,a[k]?=some x:=⟨_,Zf hlt⟩;obtain ⟨y,hy⟩: ∃y,b[k]?=some y:=⟨_,Zf (by omega)⟩;obtain ⟨ad,A',c',rfl,hcell,hle,hCx⟩:=cqz (Kd.azz HCA.out HB.out) k x hx;obtain ⟨bd,B',d',rfl,hcell2,hle2,hCy⟩:=cqz (Kd.azz HCB.out HB.out) k y hy
  have HZ:=Za (show List.zipWith (· ++ ·) (a.take (k+1)) (b.take (k+1))=List.zipWith (· ++ ·) (a.take k) (b.take k)++ [x++y] by
   rw [List.take_add_one,List.take_add_one,hx,hy];rw [List.zipWith_append (by simp;omega)]
   rfl)
  have hlz:(List.zipWith (· ++ ·) (a.take k) (b.take k)).length<=1000:=by simp;omega
  have HLZ:=Za hlz;have hblk:(wr.alloc (.cells #[.slice A' x.length c', .slice B' y.length d'] 57)).heap[wr.heap.size]?=some (.cells #[.slice A' x.length c', .slice B' y.length d'] 57 (0,0)):=heap_alloc_new _ _;have HC2:=Za (C_two (e:=3) hblk (Kd.azz hCx (anz (Zw _ _) _)) hle (Kd.azz hCy (anz (Zw _ _) _)) hle2);have HCC:=Za (concat_i.calls (some ⟨wr.heap.size,0,none⟩) 2 [x,y] _ HC2.out (by simp) (by have:=HRA.out x (Zo hx);have:=HRB.out y (Zo hy);simp;omega));have hltb:k<b.length:=by omega
  clear hx hy hCx hCy hle hle2 hblk hlz
  go_wp2_with fail
  refine HCC.out.mono ?_;rintro e w1 ⟨u,rfl,hu,hb1⟩;rw [show [x,y].flatten=x++y by simp] at hu;obtain ⟨ua,uc,rfl⟩:=Kd.a3z hu;generalize (x++y).length=nn at hu|-;have hsf:=S_fresh (Kd.egz HO.out (.cells #[.slice A' x.length c', .slice B' y.length d'] 57)) hb1 (Zt HB.out.size (by simp)) hu;have HS1:=Za hsf.1;have HM1:=Za hsf.2.1;have HOK:=Za hsf.2.2;have HB1:=Za (HB.out.trans ((dIz (anz (Zw _ _) _) hb1).mono HB.out.size));have HSZ:=Za hb1.size;clear hu hb1 hsf
  go_wp2_with ((with_reducible refine aoz (b:= .append) (xs:= #[.tmp 15, .tmp 23]) rfl ?_);go_must (at_builtin;refine Kd.b2z (dM 3 .i64) (w0:=W) W.heap.size rfl (.tmp 15) (.tmp 23) 69 57 (.slice none 0 0) 24 rfl Tryz.underlying69 kr_ rfl (by decide) (by decide) _ _ (x++y) [.slice ua nn uc] (fun _=>True) (fun k'=>(wr.alloc (.cells #[.slice A' x.length c', .slice B' y.length d'] 57)).heap.size<=k') rfl rfl HM1.out HOK.out (fun _ _=>trivial) HS1.out HB1.out HB1.out.size ?aL ?_;(case aL=>have:=HLZ.out;omega));intro v2 w2 ho2 hb2 hg2 hat2;have HO2:=Za ho2;have HB2:=Za hb2;clear ho2 hb2 hg2 hat2)
  go_roundw
  case rel=>exact ⟨k+1,by omega,by go_num,⟨by rw [HZ.out];exact HO2.out⟩,HB2⟩
  case measure=>simp [intOf];omega
 ·obtain rfl:k=a.length:=by omega
  have HF:=Za HO.out;rw [List.take_length] at HF;go_wp2;go_ret;refine ⟨_,rfl,?_,HB.out⟩;rw [zip_take];exact HF.out
def dotF (wb:Int):List Int->List Int->Int->Int
 |x::a,y::b,s=>dotF wb a b (Go.bits .xor .i64 s (gmul wb x y))
 |_,_,s=>s
theorem dotF_drop (wb:Int) (a b:List Int) (s:Int) (k:Nat) (x y:Int) (hx:a[k]?=some x) (hy:b[k]?=some y):dotF wb (a.drop k) (b.drop k) s=dotF wb (a.drop (k+1)) (b.drop (k+1)) (Go.bits .xor .i64 s (gmul wb x y)):=by
 obtain ⟨h1,rfl⟩:=Zk hx;obtain ⟨h2,rfl⟩:=Zk hy;rw [List.drop_eq_getElem_cons h1,List.drop_eq_getElem_cons h2,dotF]
theorem dotF_end (wb:Int) (a b:List Int) (s:Int):dotF wb (a.drop a.length) b s=s:=by
 rw [List.drop_length];cases b<;>rfl
abbrev NotG (g:Nat):Nat->Prop:=fun k=>k≠g
theorem F_bb {α:Type} {d:Kd α} {W W1:World} {g:Nat} {A:Option Addr} {n:Nat} {xs:List α} (h:Kd.F d W (NotG g) A n xs) (hb:BB W W1 g):Kd.F d W1 (NotG g) A n xs:=Kd.F_keep h hb.keep (fun _ hk=>hk)
theorem matrix_dot.calls (g : Nat) (S : Nat -> Prop) (wb : Int) (A B : Option Addr) (ca cb : Nat) (a b : List Int) (W : World) (hw : wb = 8 \/ wb = 16) (hF : Fd W g wb (fpoly wb) S) (hS : ∀ k, S k -> k < W.heap.size) (hla : a.length <= 1000) (hlb : a.length <= b.length)
  (ha:Kd.F (Kd.int .i64) W (NotG g) A a.length a) (hb:Kd.F (Kd.int .i64) W (NotG g) B b.length b):
  Calls Tryz.prog 185 #[.pointer (some ⟨g,0,none⟩), .slice A a.length ca, .slice B b.length cb] W fun e w'=>e= .returned (.int .i64 (dotF wb a b 0))/\Fd w' g wb (fpoly wb) S/\BB W w' g:=by
 have HF:=Za hF;have HS:=Za hS;have HW:=Za hw;have HA:=Za ha;have HB:=Za hb;obtain ⟨R,hR⟩: ∃R,dotF wb a b 0=R:=⟨_,rfl⟩;rw [hR];have HR:=Za (show dotF wb (a.drop 0) (b.drop 0) 0=R from hR);clear hF hS hw ha hb hR;go_enter Tryz.func185,Tryz.ntmps185;go_wp2
 go_loopw [7,12] (fun s i wr=> ∃(k:Nat) (z:Int),k<=a.length/\s= .int .i64 z/\i= .int .i64 k/\Aside0 (dotF wb (a.drop k) (b.drop k) z=R)/\Aside0 (Fd wr g wb (fpoly wb) S)/\Aside0 (BB W wr g)) (fun _ i _=>a.length - (intOf i).toNat)
 case atStart=>exact ⟨0,0,Nat.zero_le _,rfl,rfl,HR,HF,⟨BB.refl _ _⟩⟩
 clear HR HF;obtain ⟨k,z,hk,rfl,rfl,HR,HF,HBB⟩:=hrel;by_cases hlt:k<a.length
 ·obtain ⟨x,hx⟩: ∃x,a[k]?=some x:=⟨_,Zf hlt⟩;obtain ⟨y,hy⟩: ∃y,b[k]?=some y:=⟨_,Zf (by omega)⟩;obtain ⟨ad,rfl,hc1⟩:=cvz (Kd.F_now (F_bb HA.out HBB.out)) k x hx;obtain ⟨bd,rfl,hc2⟩:=cvz (Kd.F_now (F_bb HB.out HBB.out)) k y hy;have HR1:=Za ((dotF_drop wb a b z k x y hx hy).symm.trans HR.out);have hltb:k<b.length:=by omega
  clear hx hy
  go_wp2_with (first|(go_at_call 103;refine (cHz.calls g S wb x y _ HW.out HF.out (fun k hk=>Zp (HS.out k hk) HBB.out.size)).mono ?_;rintro e w3 ⟨rfl,q1,q2⟩))
  go_roundw
  case rel=>exact ⟨k+1,_,by omega,rfl,by go_num,HR1,⟨q1⟩,⟨HBB.out.trans q2⟩⟩
  case measure=>simp [intOf];omega
 ·obtain rfl:k=a.length:=by omega
  have HE:=Za ((dotF_end wb a (b.drop a.length) z).symm.trans HR.out);go_wp2;go_ret;refine ⟨?_,HF.out,HBB.out⟩;rw [<-HE.out];rfl
theorem append_int_run {W : World} {base : Nat} {v : Value} {xs : List Int} (z : Int) (HO : (Kd.int .i64).R 3 W base (fun _ => True) v xs) (hb : base <= W.heap.size) (hl : xs.length <= 1000) :
  ∃v1 w1,(Builtin.append_ #[57,57] 57 #[v, .slice (some ⟨W.heap.size,0,none⟩) 1 1]).run Tryz.prog (W.alloc (.cells #[.int .i64 z] 3))= .ok v1 w1/\(Kd.int .i64).R 3 w1 base (fun _=>True) v1 (xs++ [z])/\W.grownBy w1 v.ownBlock/\(v1.ownBlock=v.ownBlock\/ ∃b,v1.ownBlock=some b/\W.heap.size<=b):=by
 obtain ⟨h0,inner,hown,hr⟩:=HO;obtain ⟨i0,hi,hz0,hz1,hz2⟩:=info_parts info3;have hcell:(W.alloc (.cells #[.int .i64 z] 3)).heap[W.heap.size]?=some (.cells #[.int .i64 z] 3 (0,0)):=heap_alloc_new _ _
 obtain ⟨v1,w1,hrun,h1,h2, -,h4⟩:=run_append_own_at (P:=Tryz.prog) (w:=W.alloc (.cells #[.int .i64 z] 3)) base 57 57 3 i0 (.int .i64 0) 1 8 Tryz.underlying57 hi hz0 hz1 hz2 rfl (by decide) v xs.length inner (e6z hown (anz (Zw _ _) _)) ⟨W.heap.size,0,none⟩ 1 1 [.int .i64 z] rfl
  (fun j u hu=>by
   cases j with
   |succ j=>simp at hu
   |zero=>
    obtain rfl:Value.int .i64 z=u:=by simpa using hu
    exact (abz hcell 0).trans rfl) (by simp [Value.oneCell']) (by unfold maxLen;omega) (by omega) (by simp;omega)
 have hgW:W.grownBy w1 v.ownBlock:=(World.grownBy_alloc W _ _).trans h2
 have hat:v1.ownBlock=v.ownBlock\/ ∃b,v1.ownBlock=some b/\W.heap.size<=b:=by
  rcases h4 with h4|h4
  ·exact .inl h4
  ·exact .inr ⟨_,h4,by simp⟩
 exact ⟨v1,w1,hrun,Kd.eOz h0 hr (okp:=fun _=>False) (show (Kd.int .i64).M W base (fun _=>False) z [.int .i64 z] from rfl) (fun _ h=>h.elim) (fun _ _=>trivial) h1 hgW hat,hgW,hat⟩
theorem R_noncells {X Y:World} {row:Option Nat} {base:Nat} {ok:Nat->Prop} {v:Value} {xs:List Int} {e:Nat} (h:(Kd.int .i64).R e X base ok v xs) (hg:X.grownBy Y row) (hr: ∀r,row=some r-> ∃o:Obj,X.heap[r]?=some o/\o.isCells=false):(Kd.int .i64).R e Y base ok v xs:=by
 refine Kd.aSz (Kd.ddz (Kd.cmz h) (fun k hk=> ?_)) (fun k hk=>hk.1);obtain ⟨-, -,hlt,q, -,cells,hc⟩:=hk;exact grownBy_keeps_cells hg hr hc rfl
theorem Fd_noncells {X Y:World} {row:Option Nat} {g:Nat} {wb p:Int} {S:Nat->Prop} (h:Fd X g wb p S) (hg:X.grownBy Y row) (hr: ∀r,row=some r-> ∃o:Obj,X.heap[r]?=some o/\o.isCells=false):Fd Y g wb p S:=by
 obtain ⟨h1,h2|⟨h8,hp,a,b,h3,ha,hb,na,nb⟩⟩:=h
 ·exact ⟨h1, .inl ((grownBy_keeps_cells hg hr h2 rfl).trans h2)⟩
 ·exact ⟨h1, .inr ⟨h8,hp,a,b,(grownBy_keeps_cells hg hr h3 rfl).trans h3,(grownBy_keeps_cells hg hr ha rfl).trans ha,(grownBy_keeps_cells hg hr hb rfl).trans hb,na,nb⟩⟩
theorem row_atF {α : Type} {d : Kd α} {e : Nat} {W : World} {ok : Nat -> Prop} {ad : Addr} {rows : List (List α)} (h : Kd.F (Kd.slice e d) W ok (some ad) rows.length rows) (k : Nat) (x : List α) (hx : rows[k]? = some x) :
  ∃A' c',W.cell? (ad.add k)=some (.slice A' x.length c')/\x.length<=c'/\Kd.F d W ok A' x.length x:=by
 have hlt:=(Zk hx).1;obtain ⟨ad',c,hA,hl,hK,hc, -⟩:=Kd.F_get h ([] :List α) (k:Int) (by omega) (by omega);obtain rfl:ad=ad':=Zn hA;rw [Zu,Zm,hx] at hK;obtain ⟨A',c',rfl,hle,hF⟩:=Kd.cMz hK;refine ⟨A',c',?_,hle,hF⟩;have:=hc 0 _ rfl
 simpa [Kd.slice] using this
theorem erz {P : Program} {fn : Func} {tmps : Array Value} {R : Ending -> World -> Prop} {n : Nat} : ∀ (Ds : List Nat) (w : World), Ds.Nodup -> (∀ D, D ∈ Ds -> w.heap[D]? = some (.deferred (some []))) ->
  (∀w',(∀k,k<w.heap.size->k∉Ds->w'.heap[k]?=w.heap[k]?)->w'.heap.size=w.heap.size->w'.os=w.os->w'.tape=w.tape->w'.output=w.output->LeavesInM Fence.wide n P fn tmps R [] .returning w')->
  LeavesInM Fence.wide n P fn tmps R (Ds.map fun D=> { target:= .collected D,args:= #[] }) .returning w
 | [],w,_,_,h=>h w (fun _ _ _=>rfl) rfl rfl rfl rfl
 |D::Ds,w,hn,hd,h=>by
  have h1:=hd D (List.mem_cons_self ..);have hlt:=(Array.getElem?_eq_some_iff.1 h1).1;refine ⟨by simp, .inl ⟨D,_,rfl,run_takeDeferred h1,?_⟩⟩;have hn':=List.nodup_cons.1 hn;refine erz Ds _ hn'.2 (fun D' hD'=>(World.putObj_heap_other (fun e=>hn'.1 (by rw [<-e];exact hD'))).trans (hd D' (List.mem_cons_of_mem _ hD'))) (fun w' hk hs h3 h4 h5=> ?_);have hsz:(w.putObj D (.deferred none)).heap.size=w.heap.size:=by simp [World.putObj]
  exact h w' (fun k hk1 hk2=>(hk k (by rw [hsz];exact hk1) (fun e=>hk2 (List.mem_cons_of_mem _ e))).trans (World.putObj_heap_other (fun e=>hk2 (by simp [e])))) (hs.trans hsz) (h3.trans rfl) (h4.trans rfl) (h5.trans rfl)
theorem Fd.cells {W:World} {g:Nat} {wb p:Int} {S:Nat->Prop} (h:Fd W g wb p S): ∃cs,W.heap[g]?=some (.cells cs 172 (0,0)):=by
 obtain ⟨-,h|⟨-, -,a,b,h, -⟩⟩:=h
 ·exact ⟨_,h⟩
 ·exact ⟨_,h⟩
theorem Fd.grow {X Y:World} {g:Nat} {wb p:Int} {S:Nat->Prop} {row:Option Nat} (h:Fd X g wb p S) (hr: ∀k,row=some k->S k) (hg:X.grownBy Y row):Fd Y g wb p (fun k=>S k\/X.heap.size<=k):=
 h.more.move (fun k hk hlt=>hg.block k hlt (fun e=>hk (.inl (hr k e.symm))))
theorem F_block {W:World} {g c t:Nat} {cs:Array Value} {xs:List Int} (hg:W.heap[g]?=some (.cells cs t (0,0))) (ht:3≠t) (hc:W.heap[c]?=some (.cells (nums .i64 xs).toArray 3 (0,0))) (hl:xs.length<=1000):Kd.F (Kd.int .i64) W (NotG g) (some ⟨c,0,none⟩) xs.length xs:=by
 have hne:c≠g:=by
  rintro rfl;rw [hc] at hg;injection hg with hg
  injection hg with _ hg
  exact ht hg
 intro W' hW;have hc':=(hW c hne (a8z hc)).trans hc;refine ⟨rfl,by omega,fun _=>⟨_,rfl,fun j x hx=>⟨[.int .i64 x],rfl,rfl,fun i' u hu=> ?_⟩⟩⟩
 cases i' with
 |succ i'=>simp at hu
 |zero=>
  obtain rfl:Value.int .i64 x=u:=by simpa using hu
  have e:(⟨c,0,none⟩:Addr).add (j*(Kd.int .i64).sz+0)=⟨c,j,none⟩:=by
   show (⟨c,0,none⟩:Addr).add (j*1+0)=_;unfold Addr.add;split<;>simp_all
  rw [e,abz hc' _];simp [nums,hx]
theorem Fd_keepC {X Y:World} {g:Nat} {wb p:Int} {S:Nat->Prop} (h:Fd X g wb p S) (hm: ∀(k:Nat) (o:Obj),X.heap[k]?=some o->o.isCells=true->Y.heap[k]?=X.heap[k]?):Fd Y g wb p S:=by
 obtain ⟨h1,h2|⟨h8,hp,a,b,h3,ha,hb,na,nb⟩⟩:=h
 ·exact ⟨h1, .inl ((hm _ _ h2 rfl).trans h2)⟩
 ·exact ⟨h1, .inr ⟨h8,hp,a,b,(hm _ _ h3 rfl).trans h3,(hm _ _ ha rfl).trans ha,(hm _ _ hb rfl).trans hb,na,nb⟩⟩
theorem S_keepC {X Y:World} {base:Nat} {ok:Nat->Prop} {v:Value} {xs:List (List Int)} {e t:Nat} (h:Kd.S (dM e .i64) t X base ok v xs) (hm: ∀(k:Nat) (o:Obj),X.heap[k]?=some o->o.isCells=true->Y.heap[k]?=X.heap[k]?):Kd.S (dM e .i64) t Y base ok v xs:=by
 refine Kd.cOz (Kd.S_move (Kd.bVz h) (fun k hk=> ?_)) (fun k hk=>hk.1);obtain ⟨-, -,hlt,q, -,cells,hc⟩:=hk;exact hm _ _ hc rfl
def bzz.f (a0:Int):Option (Bool):=if a0>=1 then (some (decide (a0<=20))) else (some false)
theorem bzz.calls (a0 : Int) (r : Bool) (w : World) (h : bzz.f a0 = some r) :
  Calls Tryz.prog 116 #[.int .i64 a0] w fun e w'=>e= .returned (.bool r)/\Drawn0 w w':=by
 have H:=h;clear h;unfold bzz.f at H;by_cases c2:a0>=1
 ·rw [Ya c2] at H;have c2b0:decide (1<=a0)=true:=Zd c2;clear c2;obtain rfl:=Zn H;go_enter Tryz.func116,Tryz.ntmps116;go_wp2;go_ret;exact ⟨sd_,dn_⟩
 ·rw [Yb c2] at H;have c2b0:decide (1<=a0)=false:=Ze c2;clear c2;obtain rfl:=Zn H;go_enter Tryz.func116,Tryz.ntmps116;go_wp2;go_ret;exact ⟨sd_,dn_⟩
def cwz.l0:Nat->Int->List Int->Int->Int->Option (List Int)
 |0,_,_,_,_=>none
 |k+1,x0,x5,x10,x11=>if x11<x10 then (if 0<=x11 then (if x11<(x5.length:Int) then (cwz.l0 k x0 (x5.set (x11:Int).toNat (wrap64 (x0+x11))) x10 (wrap64 (x11+1))) else (none)) else (none)) else (some x5)
def cwz.f (k:Nat) (a0:Int) (a1:Int):Option (List Int):=if 0<=a1 then (if (a1:Int).toNat<=35184372088832 then ((some (List.replicate (a1:Int).toNat 0:List Int)).bind fun y300=>(cwz.l0 k a0 y300 (y300.length:Int) 0)) else (none)) else (none)
theorem cwz.calls (k : Nat) (a0 : Int) (a1 : Int) (r : List Int) (w : World) (h : cwz.f k a0 a1 = some r) :
  Calls Tryz.prog 118 #[.int .i64 a0, .int .i64 a1] w fun e w'=> ∃v0_:Value,e= .returned (v0_)/\Kd.R (Kd.int .i64) 3 w' w.heap.size (fun _=>True) v0_ r/\Below w.heap.size w w':=by
 have HB:=Za (Zw w.heap.size w);have H:=h;clear h;unfold cwz.f at H;by_cases c3:0<=a1
 rotate_left
 ·rw [Yb c3] at H;exact Yf H (by simp)
 rw [Ya c3] at H;have c3b0:=Zz c3;have c3b1:=Zd c3;clear c3;by_cases c4:(a1:Int).toNat<=35184372088832
 rotate_left
 ·rw [Yb c4] at H;exact Yf H (by simp)
 rw [Ya c4] at H;have c4b0:=Zz c4;have c4b1:=Zd c4;clear c4;obtain ⟨y300,hy300⟩: ∃y_:List Int,y_=(List.replicate (a1:Int).toNat 0):=⟨_,rfl⟩
 first|rw [Zl, <-hy300] at H|rw [<-hy300] at H
 (try dsimp only at H)
 have Ny300:=Za hy300;clear hy300;have H':=Za H;clear H;go_enter Tryz.func118,Tryz.ntmps118
 go_wp2_with (first|((with_reducible refine aMz (N:=8) rfl ?_);refine Kd.R_make (Kd.int .i64) _ 3 rfl (N:=8) rfl 57 _ _ rfl a1 rfl rfl Tryz.underlying57 (.int .i64 0) 8 info3 rfl (by decide) (by omega) 0 (ok:=fun _=>True) (okp:=fun _=>True) rfl (fun _ hk=>hk) trivial (Zc as_) (Zt (Nat.mul_le_mul_right _ (Zc as_:a1.toNat<=35184372088832)) (by omega)) (Zw _ _) (Zv _) ?_;intro v301 w5 ho6 hb hg_ hnew_;clear hg_ hnew_;(first|rw [<-Ny300.out] at ho6|(simp only [Int.reduceToNat] at ho6;rw [<-Ny300.out] at ho6));have n_:=Zb (Za (Kd.bAz ho6 (adz bl_))) (hs_ HB hb);clear HB;obtain ⟨HO302,HB⟩:=n_;clear hb ho6;obtain ⟨Ao7,co7,eo7⟩:=Kd.a3z HO302.out;subst eo7))
 go_loopg [11] k (fun kq v11 w'=> ∃(x5_1:List Int) (x11_1:Int),v11= .int .i64 x11_1/\Aside0 (cwz.l0 kq a0 x5_1 (y300.length:Int) x11_1=some r)/\Aside0 (kq<=k)/\Aside0 (Kd.R (Kd.int .i64) 3 w' w.heap.size (fun _=>True) (.slice Ao7 y300.length co7) x5_1)/\Aside0 (Below w.heap.size w w'))
 case atStart=>exact ⟨(y300),(0),sd_,H',⟨Zv _⟩,⟨xd_ HO302.out⟩,⟨bl_⟩⟩
 clear H';clear c3b0 c3b1 c4b0 c4b1;obtain ⟨x5_1,x11_1,rfl,HA,HK1,HO_5,HB⟩:=hrel;have hl5_1:=(Kd.aPz HO_5.out).1;rw [hl5_1] at HO_5
 (try simp only [hl5_1])
 rcases gk with _|k1
 ·exact Yf HA.out (by simp [cwz.l0])
 have H:=HA.out;clear HA;simp only [cwz.l0] at H;by_cases c8:x11_1<(y300.length:Int)
 rotate_left
 ·rw [Yb c8] at H;have c8b0:=Ze c8
  (first|(rw [hl5_1] at c8b0)|skip)
  clear c8;obtain rfl:=Zn H;go_wp2;go_ret;exact ⟨_,er_,xd_ HO_5.out,bl_⟩
 rw [Ya c8] at H;have c8b0:=Zd c8;clear c8;by_cases c9:0<=x11_1
 rotate_left
 ·rw [Yb c9] at H;exact Yf H (by simp)
 rw [Ya c9] at H;have c9b0:=Zd c9;clear c9;by_cases c10:x11_1<(x5_1.length:Int)
 rotate_left
 ·rw [Yb c10] at H;exact Yf H (by simp)
 rw [Ya c10] at H;have c10b0:=Zd c10;clear c10;obtain ⟨y303,hy303⟩: ∃y_:List Int,y_=(x5_1.set (x11_1:Int).toNat (wrap64 (a0+x11_1))):=⟨_,rfl⟩
 first|rw [Zl, <-hy303] at H|rw [<-hy303] at H
 (try dsimp only at H)
 have Ny303:=Za hy303;clear hy303;have H':=Za H;clear H;have p11:0<=(x11_1:Int):=Zc as_;have q11:(x11_1:Int)<((x5_1.length:Int):Int):=Zc as_;obtain ⟨go11,co11,eo11,gb11,gl11,cl11,HG11⟩:=Kd.dHz HO_5.out (by omega)
 (first|cases eo11|(injection eo11 with ea_ en_ ec_;(first|subst ea_|(injection ea_ with ea_;subst ea_));subst ec_;clear en_))
 have GB11:=Za gb11;have GG11:=Za HG11;clear gb11 gl11 HG11;obtain ⟨hx11_0,hf11_0⟩:=Kd.R_celln 0 HO_5.out (x11_1:Int) p11 q11;replace p11:=Zz p11;replace q11:=Zz q11;have HP12:=Kd.R_putg HO_5.out (x11_1:Int) (wrap64 (a0+x11_1))
 go_wp2_with (first|((with_reducible refine dkz (t:=3) (p:=19) rfl ?_);refine dZz (t:=3) (p:=19) (v:= ?vo_w13) (w1:=(wr.setCell ⟨go11,(x11_1:Int).toNat,none⟩ (.int .i64 (wrap64 (a0+x11_1))))) ?hg ?ho ?hn ?hr ?_;(case ho=>rfl);(case hg=>rfl);(case hn=>rfl);(case hr=>first|(go_simp;done)|(go_simp;rfl));intro w13 hw;have hg:wr.grownBy w13 (some go11):=(by rw [hw];exact HP12.2);have hp_:Kd.R (Kd.int .i64) 3 w13 w.heap.size (fun _=>True) (.slice (some ⟨go11,0,none⟩) x5_1.length co7) y303:=(by rw [hw,Ny303.out];exact HP12.1);clear HP12;have n_:=Zb (Za (hp_)) (Za ((by rw [hw];exact dEz (HB.out) GB11.out:Below w.heap.size w w13)));clear HO_5 HB;obtain ⟨HO_5,HB⟩:=n_;clear hg hw hp_))
 (try simp only [<-hl5_1])
 go_roundg k1
 case measure=>have:=HK1.out;omega
 case rel=>exact ⟨(y303),(wrap64 (x11_1+1)),sd_,H',⟨by have:=HK1.out;omega⟩,⟨by (try simp only [hl5_1]);(with_reducible repeat (first|apply Kd.c9z|apply Kd.cIz|apply Kd.b5z));exact HO_5.out⟩,⟨bl_⟩⟩
end Go.Proofs.Xc
end
