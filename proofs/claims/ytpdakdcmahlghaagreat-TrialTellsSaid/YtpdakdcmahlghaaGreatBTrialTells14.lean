-- Joined texts of this work (wip/tools/bundle.py).
import Derived.Test.YtpdakdcmahlghaaGreatBTrialTells13
set_option maxHeartbeats 8000000
set_option maxRecDepth 100000
set_option linter.unusedVariables false
set_option linter.unusedSimpArgs false
section
namespace Go.Proofs.Xc
open Go.RowKit Go.Proofs.Pw Go.Proofs.Pl Go.Proofs.Pm
attribute [local go_sem] bcz bdz bpz bqz a4z a5z bez bfz
mutual
def akz.j0:Nat->Int->Int->List (List Int)->List (List Int)->Bool->Option ((List (List Int))×Bool)
 |0,_,_,_,_,_=>none
 |k+1,x0,x1,x2,x3,x34=>if x34=true then (some (([] :List (List Int)),false)) else (akz.l0 k x0 x1 x2 x3 ([] :List (List Int)) 0)
def akz.l0:Nat->Int->Int->List (List Int)->List (List Int)->List (List Int)->Int->Option ((List (List Int))×Bool)
 |0,_,_,_,_,_,_=>none
 |k+1,x0,x1,x2,x3,x10,x11=>if x11<(x2.length:Int) then (akz.l1 k x0 x1 x2 x3 x10 x11 ([] :List Int) 0) else (some (x10,true))
def akz.l1:Nat->Int->Int->List (List Int)->List (List Int)->List (List Int)->Int->List Int->Int->Option ((List (List Int))×Bool)
 |0,_,_,_,_,_,_,_,_=>none
 |k+1,x0,x1,x2,x3,x10,x11,x12,x13=>if 0<(x3.length:Int) then (if x13<((rd_L4 x3 0).length:Int) then (akz.l2 k x0 x1 x2 x3 x10 x11 x12 x13 0 0) else (if x10.length<5864062014805 then (akz.l0 k x0 x1 x2 x3 (x10++ [x12]) (wrap64 (x11+1))) else (none))) else (none)
def akz.l2:Nat->Int->Int->List (List Int)->List (List Int)->List (List Int)->Int->List Int->Int->Int->Int->Option ((List (List Int))×Bool)
 |0,_,_,_,_,_,_,_,_,_,_=>none
 |k+1,x0,x1,x2,x3,x10,x11,x12,x13,x14,x15=>if x15<(x3.length:Int) then (if 0<=x11 then (if x11<(x2.length:Int) then (if 0<=x15 then (if x15<((rd_L4 x2 x11).length:Int) then (if 0<=x13 then (if x13<((rd_L4 x3 x15).length:Int) then ((aAz.f k x0 x1 (rd (rd_L4 x2 x11) x15) (rd (rd_L4 x3 x15) x13)).bind fun t543=>(akz.l2 k x0 x1 x2 x3 x10 x11 x12 x13 (Go.bits .xor .i64 x14 t543) (wrap64 (x15+1)))) else (none)) else (none)) else (none)) else (none)) else (none)) else (none)) else (if x12.length<17592186044416 then (akz.l1 k x0 x1 x2 x3 x10 x11 (x12++ [x14]) (wrap64 (x13+1))) else (none))
end
def akz.f (k:Nat) (a0:Int) (a1:Int) (l2:List (List Int)) (l3:List (List Int)):Option ((List (List Int))×Bool):=(aez.f k a0 l2).bind fun t532=>(if t532=true then ((aez.f k a0 l3).bind fun t533=>(if t533=true then (if 0<(l2.length:Int) then (akz.j0 k a0 a1 l2 l3 (((rd_L4 l2 0).length:Int) !=(l3.length:Int))) else (none)) else (akz.j0 k a0 a1 l2 l3 true))) else (akz.j0 k a0 a1 l2 l3 true))
theorem akz.aXz: ∀k,(∀y0 y1 y2 y3 y4,LeO (akz.j0 k y0 y1 y2 y3 y4) (akz.j0 (k+1) y0 y1 y2 y3 y4))/\(∀y0 y1 y2 y3 y4 y5,LeO (akz.l0 k y0 y1 y2 y3 y4 y5) (akz.l0 (k+1) y0 y1 y2 y3 y4 y5))/\(∀y0 y1 y2 y3 y4 y5 y6 y7,LeO (akz.l1 k y0 y1 y2 y3 y4 y5 y6 y7) (akz.l1 (k+1) y0 y1 y2 y3 y4 y5 y6 y7))/\(∀y0 y1 y2 y3 y4 y5 y6 y7 y8 y9,LeO (akz.l2 k y0 y1 y2 y3 y4 y5 y6 y7 y8 y9) (akz.l2 (k+1) y0 y1 y2 y3 y4 y5 y6 y7 y8 y9))
 |0=>⟨fun _ _ _ _ _ r h=>by simp [akz.j0] at h,fun _ _ _ _ _ _ r h=>by simp [akz.l0] at h,fun _ _ _ _ _ _ _ _ r h=>by simp [akz.l1] at h,fun _ _ _ _ _ _ _ _ _ _ r h=>by simp [akz.l2] at h⟩
 |k+1=>by
  obtain ⟨ih0,ih1,ih2,ih3⟩:=akz.aXz k;refine ⟨?_,?_,?_,?_⟩
  ·intro y0 y1 y2 y3 y4;unfold akz.j0
   repeat' with_reducible first|apply ih0|apply ih1|apply ih2|apply ih3|apply aAz.mono|apply aez.mono|apply Yg|apply Yh|apply Yi|refine Yj ?_ fun _=>?_
  ·intro y0 y1 y2 y3 y4 y5;unfold akz.l0
   repeat' with_reducible first|apply ih0|apply ih1|apply ih2|apply ih3|apply aAz.mono|apply aez.mono|apply Yg|apply Yh|apply Yi|refine Yj ?_ fun _=>?_
  ·intro y0 y1 y2 y3 y4 y5 y6 y7;unfold akz.l1
   repeat' with_reducible first|apply ih0|apply ih1|apply ih2|apply ih3|apply aAz.mono|apply aez.mono|apply Yg|apply Yh|apply Yi|refine Yj ?_ fun _=>?_
  ·intro y0 y1 y2 y3 y4 y5 y6 y7 y8 y9;unfold akz.l2
   repeat' with_reducible first|apply ih0|apply ih1|apply ih2|apply ih3|apply aAz.mono|apply aez.mono|apply Yg|apply Yh|apply Yi|refine Yj ?_ fun _=>?_
theorem akz.mono: ∀a0 a1 a2 a3 k,LeO (akz.f k a0 a1 a2 a3) (akz.f (k+1) a0 a1 a2 a3):=by
 intro a0 a1 a2 a3 k;obtain ⟨ih0,ih1,ih2,ih3⟩:=akz.aXz k;unfold akz.f
 repeat' with_reducible first|apply ih0|apply ih1|apply ih2|apply ih3|apply aAz.mono|apply aez.mono|apply Yg|apply Yh|apply Yi|refine Yj ?_ fun _=>?_
theorem akz.calls (k : Nat) (a0 : Int) (a1 : Int) (A2 : Option Addr) (c2 : Nat) (l2 : List (List Int)) (A3 : Option Addr) (c3 : Nat) (l3 : List (List Int)) (r1 : List (List Int)) (r2 : Bool) (w : World) (hr2 : Kd.C (Kd.slice 3 (Kd.int .i64)) w A2 l2.length l2) (hc2 : l2.length <= c2) (hr3 : Kd.C (Kd.slice 3 (Kd.int .i64)) w A3 l3.length l3) (hc3 : l3.length <= c3) (h : akz.f k a0 a1 l2 l3 = some (r1, r2)) :
  Calls Tryz.prog 127 #[.int .i64 a0, .int .u32 a1, .slice A2 l2.length c2, .slice A3 l3.length c3] w fun e w'=> ∃v0_:Value,e= .returned (.tuple #[v0_, .bool r2])/\Kd.S (Kd.slice 3 (Kd.int .i64)) 57 w' w.heap.size (fun _=>True) v0_ r1/\Below w.heap.size w w':=by
 have HR2:=Za hr2;have HC2:=Za hc2;clear hr2 hc2;have HR3:=Za hr3;have HC3:=Za hc3;clear hr3 hc3;have HB:=Za (Zw w.heap.size w);have H:=h;clear h;unfold akz.f at H;have HC5:=Za H;clear H;go_enter Tryz.func127,Tryz.ntmps127
 go_upto_region 1 with (fail)
 repeat (go_quiet (fail);go_upto_region 1 with (fail))
 go_cut [34] (fun v34 wc=> ∃(kq:Nat) (x34_4:Bool),v34= .bool x34_4/\Aside0 (akz.j0 kq a0 a1 l2 l3 x34_4=some (r1,r2))/\Aside0 (kq<=k)/\Aside0 (Below w.heap.size w wc))
 case first=>
  have H:=HC5.out;clear HC5;obtain ⟨t532,A6,H⟩:=ob_ H
  (try dsimp only at H)
  by_cases c7:t532=true
  rotate_left
  ·replace c7:=Zr c7;subst c7;rw [Yb (show¬(false=true) by decide)] at H;have H':=Za H;clear H
   go_wp2_with (first|(go_at_call 98;(with_reducible refine (aez.calls k a0 _ _ l2 false _ (xd_ (Kd.azz HR2.out HB.out)) (HC2.out) A6.out).mono ?_);rintro e w' ⟨rfl,⟨nd,rfl⟩⟩;(try first|exact ⟨rfl,_,World.drewN_drewN _ _ _⟩|exact ⟨rfl,_,Eq.trans (World.drewN_drewN _ _ _) (congrArg (World.drewN _) (Nat.add_assoc _ _ _))⟩)))
   repeat (go_quiet (first|(go_at_call 98;(with_reducible refine (aez.calls k a0 _ _ l2 false _ (xd_ (Kd.azz HR2.out HB.out)) (HC2.out) A6.out).mono ?_);rintro e w' ⟨rfl,⟨nd,rfl⟩⟩;(try first|exact ⟨rfl,_,World.drewN_drewN _ _ _⟩|exact ⟨rfl,_,Eq.trans (World.drewN_drewN _ _ _) (congrArg (World.drewN _) (Nat.add_assoc _ _ _))⟩)));try go_wp2_with (first|(go_at_call 98;(with_reducible refine (aez.calls k a0 _ _ l2 false _ (xd_ (Kd.azz HR2.out HB.out)) (HC2.out) A6.out).mono ?_);rintro e w' ⟨rfl,⟨nd,rfl⟩⟩;(try first|exact ⟨rfl,_,World.drewN_drewN _ _ _⟩|exact ⟨rfl,_,Eq.trans (World.drewN_drewN _ _ _) (congrArg (World.drewN _) (Nat.add_assoc _ _ _))⟩))))
   go_meet
   case rel=>exact ⟨_,(true),sd_,H',⟨by first|omega|exact Zv _⟩,⟨bl_⟩⟩
  subst c7;rw [Ya rfl] at H;obtain ⟨t533,A8,H⟩:=ob_ H
  (try dsimp only at H)
  by_cases c9:t533=true
  rotate_left
  ·replace c9:=Zr c9;subst c9;rw [Yb (show¬(false=true) by decide)] at H;have H':=Za H;clear H
   go_wp2_with (first|(go_at_call 98;(with_reducible refine (aez.calls k a0 _ _ l2 true _ (xd_ (Kd.azz HR2.out HB.out)) (HC2.out) A6.out).mono ?_);rintro e w' ⟨rfl,⟨nd,rfl⟩⟩;(try first|exact ⟨rfl,_,World.drewN_drewN _ _ _⟩|exact ⟨rfl,_,Eq.trans (World.drewN_drewN _ _ _) (congrArg (World.drewN _) (Nat.add_assoc _ _ _))⟩))|(go_at_call 98;(with_reducible refine (aez.calls k a0 _ _ l3 false _ (xd_ (Kd.azz HR3.out bl_)) (HC3.out) A8.out).mono ?_);rintro e w' ⟨rfl,⟨nd,rfl⟩⟩;(try first|exact ⟨rfl,_,World.drewN_drewN _ _ _⟩|exact ⟨rfl,_,Eq.trans (World.drewN_drewN _ _ _) (congrArg (World.drewN _) (Nat.add_assoc _ _ _))⟩)))
   repeat (go_quiet (first|(go_at_call 98;(with_reducible refine (aez.calls k a0 _ _ l2 true _ (xd_ (Kd.azz HR2.out HB.out)) (HC2.out) A6.out).mono ?_);rintro e w' ⟨rfl,⟨nd,rfl⟩⟩;(try first|exact ⟨rfl,_,World.drewN_drewN _ _ _⟩|exact ⟨rfl,_,Eq.trans (World.drewN_drewN _ _ _) (congrArg (World.drewN _) (Nat.add_assoc _ _ _))⟩))|(go_at_call 98;(with_reducible refine (aez.calls k a0 _ _ l3 false _ (xd_ (Kd.azz HR3.out bl_)) (HC3.out) A8.out).mono ?_);rintro e w' ⟨rfl,⟨nd,rfl⟩⟩;(try first|exact ⟨rfl,_,World.drewN_drewN _ _ _⟩|exact ⟨rfl,_,Eq.trans (World.drewN_drewN _ _ _) (congrArg (World.drewN _) (Nat.add_assoc _ _ _))⟩)));try go_wp2_with (first|(go_at_call 98;(with_reducible refine (aez.calls k a0 _ _ l2 true _ (xd_ (Kd.azz HR2.out HB.out)) (HC2.out) A6.out).mono ?_);rintro e w' ⟨rfl,⟨nd,rfl⟩⟩;(try first|exact ⟨rfl,_,World.drewN_drewN _ _ _⟩|exact ⟨rfl,_,Eq.trans (World.drewN_drewN _ _ _) (congrArg (World.drewN _) (Nat.add_assoc _ _ _))⟩))|(go_at_call 98;(with_reducible refine (aez.calls k a0 _ _ l3 false _ (xd_ (Kd.azz HR3.out bl_)) (HC3.out) A8.out).mono ?_);rintro e w' ⟨rfl,⟨nd,rfl⟩⟩;(try first|exact ⟨rfl,_,World.drewN_drewN _ _ _⟩|exact ⟨rfl,_,Eq.trans (World.drewN_drewN _ _ _) (congrArg (World.drewN _) (Nat.add_assoc _ _ _))⟩))))
   go_meet
   case rel=>exact ⟨_,(true),sd_,H',⟨by first|omega|exact Zv _⟩,⟨bl_⟩⟩
  subst c9;rw [Ya rfl] at H;by_cases c10:0<(l2.length:Int)
  ·rw [Ya c10] at H;have c10b0:=Zd c10;have c10b1:decide (0<l2.length)=true:=Zd (by omega);clear c10;have H':=Za H;clear H
   go_wp2_with (first|(go_at_call 98;(with_reducible refine (aez.calls k a0 _ _ l2 true _ (xd_ (Kd.azz HR2.out HB.out)) (HC2.out) A6.out).mono ?_);rintro e w' ⟨rfl,⟨nd,rfl⟩⟩;(try first|exact ⟨rfl,_,World.drewN_drewN _ _ _⟩|exact ⟨rfl,_,Eq.trans (World.drewN_drewN _ _ _) (congrArg (World.drewN _) (Nat.add_assoc _ _ _))⟩))|(go_at_call 98;(with_reducible refine (aez.calls k a0 _ _ l3 true _ (xd_ (Kd.azz HR3.out bl_)) (HC3.out) A8.out).mono ?_);rintro e w' ⟨rfl,⟨nd,rfl⟩⟩;(try first|exact ⟨rfl,_,World.drewN_drewN _ _ _⟩|exact ⟨rfl,_,Eq.trans (World.drewN_drewN _ _ _) (congrArg (World.drewN _) (Nat.add_assoc _ _ _))⟩);have p534:0<=(0:Int):=(by omega);have q534:0<(l2.length:Int):=Zc as_;obtain ⟨_,A534_0,c534_0,e534,hx534_0,hl534_0,hi534_0⟩:=at_L4 HR2.out 0 p534 q534;cases e534;have qi534:(0<l2.length)=True:=Zz (by omega);(try rw [show ((0:Int)).toNat=0 from rfl] at hx534_0);(try rw [Addr.add_zero'] at hx534_0);replace hx534_0:=(HB.out.cell (Zj w _ hx534_0)).trans hx534_0;have HR534_0:=Za hi534_0;have HC534_0:=Za hl534_0;clear hi534_0 hl534_0;replace p534:=Zz p534;replace q534:=Zz q534))
   repeat (go_quiet (first|(go_at_call 98;(with_reducible refine (aez.calls k a0 _ _ l2 true _ (xd_ (Kd.azz HR2.out HB.out)) (HC2.out) A6.out).mono ?_);rintro e w' ⟨rfl,⟨nd,rfl⟩⟩;(try first|exact ⟨rfl,_,World.drewN_drewN _ _ _⟩|exact ⟨rfl,_,Eq.trans (World.drewN_drewN _ _ _) (congrArg (World.drewN _) (Nat.add_assoc _ _ _))⟩))|(go_at_call 98;(with_reducible refine (aez.calls k a0 _ _ l3 true _ (xd_ (Kd.azz HR3.out bl_)) (HC3.out) A8.out).mono ?_);rintro e w' ⟨rfl,⟨nd,rfl⟩⟩;(try first|exact ⟨rfl,_,World.drewN_drewN _ _ _⟩|exact ⟨rfl,_,Eq.trans (World.drewN_drewN _ _ _) (congrArg (World.drewN _) (Nat.add_assoc _ _ _))⟩);have p534:0<=(0:Int):=(by omega);have q534:0<(l2.length:Int):=Zc as_;obtain ⟨_,A534_0,c534_0,e534,hx534_0,hl534_0,hi534_0⟩:=at_L4 HR2.out 0 p534 q534;cases e534;have qi534:(0<l2.length)=True:=Zz (by omega);(try rw [show ((0:Int)).toNat=0 from rfl] at hx534_0);(try rw [Addr.add_zero'] at hx534_0);replace hx534_0:=(HB.out.cell (Zj w _ hx534_0)).trans hx534_0;have HR534_0:=Za hi534_0;have HC534_0:=Za hl534_0;clear hi534_0 hl534_0;replace p534:=Zz p534;replace q534:=Zz q534));try go_wp2_with (first|(go_at_call 98;(with_reducible refine (aez.calls k a0 _ _ l2 true _ (xd_ (Kd.azz HR2.out HB.out)) (HC2.out) A6.out).mono ?_);rintro e w' ⟨rfl,⟨nd,rfl⟩⟩;(try first|exact ⟨rfl,_,World.drewN_drewN _ _ _⟩|exact ⟨rfl,_,Eq.trans (World.drewN_drewN _ _ _) (congrArg (World.drewN _) (Nat.add_assoc _ _ _))⟩))|(go_at_call 98;(with_reducible refine (aez.calls k a0 _ _ l3 true _ (xd_ (Kd.azz HR3.out bl_)) (HC3.out) A8.out).mono ?_);rintro e w' ⟨rfl,⟨nd,rfl⟩⟩;(try first|exact ⟨rfl,_,World.drewN_drewN _ _ _⟩|exact ⟨rfl,_,Eq.trans (World.drewN_drewN _ _ _) (congrArg (World.drewN _) (Nat.add_assoc _ _ _))⟩);have p534:0<=(0:Int):=(by omega);have q534:0<(l2.length:Int):=Zc as_;obtain ⟨_,A534_0,c534_0,e534,hx534_0,hl534_0,hi534_0⟩:=at_L4 HR2.out 0 p534 q534;cases e534;have qi534:(0<l2.length)=True:=Zz (by omega);(try rw [show ((0:Int)).toNat=0 from rfl] at hx534_0);(try rw [Addr.add_zero'] at hx534_0);replace hx534_0:=(HB.out.cell (Zj w _ hx534_0)).trans hx534_0;have HR534_0:=Za hi534_0;have HC534_0:=Za hl534_0;clear hi534_0 hl534_0;replace p534:=Zz p534;replace q534:=Zz q534)))
   go_meet
   case rel=>exact ⟨_,((((rd_L4 l2 0).length:Int) !=(l3.length:Int))),sd_,H',⟨by first|omega|exact Zv _⟩,⟨bl_⟩⟩
  ·rw [Yb c10] at H;exact Yf H (by simp)
 case rest=>
  clear HC5;obtain ⟨kq,x34_4,rfl,HA,HJ4,HB⟩:=hcut;rcases kq with _|kj4
  ·exact Yf HA.out (by simp [akz.j0])
  have H:=HA.out;clear HA;simp only [akz.j0] at H;by_cases c11:x34_4=true
  ·subst c11;rw [Ya rfl] at H;simp only [Zx,Zy] at H;obtain ⟨rfl,rfl⟩:=H;go_wp2;go_ret2;exact ⟨_,er_,nl_,bl_⟩
  ·replace c11:=Zr c11;subst c11;rw [Yb (show¬(false=true) by decide)] at H;have H':=Za H;clear H;go_wp2
   go_loopg [10,11] kj4 (fun kq v10 v11 w'=> ∃(x10_2:List (List Int)) (x11_2:Int),v11= .int .i64 x11_2/\Aside0 (akz.l0 kq a0 a1 l2 l3 x10_2 x11_2=some (r1,r2))/\Aside0 (kq<=kj4)/\Aside0 (Kd.S (Kd.slice 3 (Kd.int .i64)) 57 w' w.heap.size (fun _=>True) v10 x10_2)/\Aside0 (Below w.heap.size w w'))
   case atStart=>exact ⟨(([] :List (List Int))),(0),sd_,H',⟨Zv _⟩,⟨nl_⟩,⟨bl_⟩⟩
   clear H';obtain ⟨x10_2,x11_2,rfl,HA,HK2,HO_10,HB⟩:=hrel;rcases gk with _|k2
   ·exact Yf HA.out (by simp [akz.l0])
   have H:=HA.out;clear HA;simp only [akz.l0] at H;by_cases c12:x11_2<(l2.length:Int)
   rotate_left
   ·rw [Yb c12] at H;have c12b0:=Ze c12;clear c12;simp only [Zx,Zy] at H;obtain ⟨rfl,rfl⟩:=H;go_wp2;go_ret2;exact ⟨_,er_,xd_ HO_10.out,bl_⟩
   rw [Ya c12] at H;have c12b0:=Zd c12;clear c12;have H':=Za H;clear H;go_wp2
   go_loopg [12,13] k2 (fun kq v12 v13 w'=> ∃(x12_3:List Int) (x13_3:Int),v13= .int .i64 x13_3/\Aside0 (akz.l1 kq a0 a1 l2 l3 x10_2 x11_2 x12_3 x13_3=some (r1,r2))/\Aside0 (kq<=k2)/\Aside0 (Kd.S (Kd.slice 3 (Kd.int .i64)) 57 w' w.heap.size (fun k_=>some k_≠(v12:Value).ownBlock) u10 x10_2)/\Aside0 (Kd.R (Kd.int .i64) 3 w' w.heap.size (fun _=>True) v12 x12_3)/\Aside0 (Below w.heap.size w w'))
   case atStart=>exact ⟨(([] :List Int)),(0),sd_,H',⟨Zv _⟩,⟨sm_ HO_10⟩,⟨nl_⟩,⟨bl_⟩⟩
   clear H';clear c12b0;obtain ⟨x12_3,x13_3,rfl,HA,HK3,HO_10,HO_12,HB⟩:=hrel;rcases gk with _|k3
   ·exact Yf HA.out (by simp [akz.l1])
   have H:=HA.out;clear HA;simp only [akz.l1] at H;by_cases c13:0<(l3.length:Int)
   rotate_left
   ·rw [Yb c13] at H;exact Yf H (by simp)
   rw [Ya c13] at H;have c13b0:=Zd c13;have c13b1:decide (0<l3.length)=true:=Zd (by omega);clear c13;by_cases c14:x13_3<((rd_L4 l3 0).length:Int)
   rotate_left
   ·rw [Yb c14] at H;have c14b0:=Ze c14;clear c14;by_cases c25:x10_2.length<5864062014805
    rotate_left
    ·rw [Yb c25] at H;exact Yf H (by simp)
    rw [Ya c25] at H;have LMc25:=Za c25;clear c25;obtain ⟨y536,hy536⟩: ∃y_:List (List Int),y_=(x10_2++ [x12_3]):=⟨_,rfl⟩
    first|rw [Zl, <-hy536] at H|rw [<-hy536] at H
    (try dsimp only at H)
    have Ny536:=Za hy536;clear hy536;have H':=Za H;clear H;have p535:0<=(0:Int):=(by omega);have q535:0<(l3.length:Int):=Zc as_;obtain ⟨ad535,A535_0,c535_0,e535,hx535_0,hl535_0,hi535_0⟩:=at_L4 HR3.out 0 p535 q535;cases e535
    have qi535:(0<l3.length)=True:=Zz (by omega)
    (try rw [show ((0:Int)).toNat=0 from rfl] at hx535_0)
    (try rw [Addr.add_zero'] at hx535_0)
    replace hx535_0:=(HB.out.cell (Zj w _ hx535_0)).trans hx535_0;have HR535_0:=Za hi535_0;have HC535_0:=Za hl535_0;clear hi535_0 hl535_0;replace p535:=Zz p535;replace q535:=Zz q535;obtain ⟨Ao27,co27,eo27⟩:=Kd.a3z HO_12.out;subst eo27
    go_wp2_with (first|((with_reducible refine aoz (b:= .append) (xs:= #[.tmp 78, .tmp 80]) rfl ?_);(try (refine aVz (by rfl) ?_;dsimp only));at_builtin;refine Kd.b2z (Kd.slice 3 (Kd.int .i64)) (w0:=w) w.heap.size rfl (.tmp 78) (.tmp 80) 68 57 (.slice none 0 0) 24 rfl Tryz.underlying68 info57 rfl (by decide) (by omega) u10 x10_2 x12_3 [.slice Ao27 x12_3.length co27] (fun _=>True) (fun k_=>some k_=(.slice Ao27 x12_3.length co27:Value).ownBlock) rfl rfl ?aP (fun k_ hk_=>((Kd.aSz (ok':=fun k_=>((fun _=>True)) k_/\some k_≠(u10:Value).ownBlock) (Kd.bxz (HO_12.out) (Kd.bQz HO_10.out) (by decide)) (fun k_ hk=>⟨trivial,hk.2⟩))).1 k_ hk_.symm) ?aF ?aO ?aB ?aS ?aL ?_;(case aP=>exact Kd.M_row (Kd.aSz (Kd.cgz rfl (Kd.aSz (ok':=fun k_=>((fun _=>True)) k_/\some k_≠(u10:Value).ownBlock) (Kd.bxz (HO_12.out) (Kd.bQz HO_10.out) (by decide)) (fun k_ hk=>⟨trivial,hk.2⟩))) (fun _ h_=>h_)));(case aB=>exact bl_);(case aF=>exact (fun _ _=>trivial));(case aO=>exact (sm_ HO_10));(case aS=>exact (adz bl_));(case aL=>have:=LMc25.out;omega);intro v537 w26 ho hb hg hat;rw [<-Ny536.out] at ho;have n_:=Zb (Za (hb)) (Za (ho));clear HB HO_10 HO_12;obtain ⟨HB,HO538⟩:=n_;clear ho hb hg hat))
    repeat (go_quiet (first|((with_reducible refine aoz (b:= .append) (xs:= #[.tmp 78, .tmp 80]) rfl ?_);(try (refine aVz (by rfl) ?_;dsimp only));at_builtin;refine Kd.b2z (Kd.slice 3 (Kd.int .i64)) (w0:=w) w.heap.size rfl (.tmp 78) (.tmp 80) 68 57 (.slice none 0 0) 24 rfl Tryz.underlying68 info57 rfl (by decide) (by omega) u10 x10_2 x12_3 [.slice Ao27 x12_3.length co27] (fun _=>True) (fun k_=>some k_=(.slice Ao27 x12_3.length co27:Value).ownBlock) rfl rfl ?aP (fun k_ hk_=>((Kd.aSz (ok':=fun k_=>((fun _=>True)) k_/\some k_≠(u10:Value).ownBlock) (Kd.bxz (HO_12.out) (Kd.bQz HO_10.out) (by decide)) (fun k_ hk=>⟨trivial,hk.2⟩))).1 k_ hk_.symm) ?aF ?aO ?aB ?aS ?aL ?_;(case aP=>exact Kd.M_row (Kd.aSz (Kd.cgz rfl (Kd.aSz (ok':=fun k_=>((fun _=>True)) k_/\some k_≠(u10:Value).ownBlock) (Kd.bxz (HO_12.out) (Kd.bQz HO_10.out) (by decide)) (fun k_ hk=>⟨trivial,hk.2⟩))) (fun _ h_=>h_)));(case aB=>exact bl_);(case aF=>exact (fun _ _=>trivial));(case aO=>exact (sm_ HO_10));(case aS=>exact (adz bl_));(case aL=>have:=LMc25.out;omega);intro v537 w26 ho hb hg hat;rw [<-Ny536.out] at ho;have n_:=Zb (Za (hb)) (Za (ho));clear HB HO_10 HO_12;obtain ⟨HB,HO538⟩:=n_;clear ho hb hg hat));try go_wp2_with (first|((with_reducible refine aoz (b:= .append) (xs:= #[.tmp 78, .tmp 80]) rfl ?_);(try (refine aVz (by rfl) ?_;dsimp only));at_builtin;refine Kd.b2z (Kd.slice 3 (Kd.int .i64)) (w0:=w) w.heap.size rfl (.tmp 78) (.tmp 80) 68 57 (.slice none 0 0) 24 rfl Tryz.underlying68 info57 rfl (by decide) (by omega) u10 x10_2 x12_3 [.slice Ao27 x12_3.length co27] (fun _=>True) (fun k_=>some k_=(.slice Ao27 x12_3.length co27:Value).ownBlock) rfl rfl ?aP (fun k_ hk_=>((Kd.aSz (ok':=fun k_=>((fun _=>True)) k_/\some k_≠(u10:Value).ownBlock) (Kd.bxz (HO_12.out) (Kd.bQz HO_10.out) (by decide)) (fun k_ hk=>⟨trivial,hk.2⟩))).1 k_ hk_.symm) ?aF ?aO ?aB ?aS ?aL ?_;(case aP=>exact Kd.M_row (Kd.aSz (Kd.cgz rfl (Kd.aSz (ok':=fun k_=>((fun _=>True)) k_/\some k_≠(u10:Value).ownBlock) (Kd.bxz (HO_12.out) (Kd.bQz HO_10.out) (by decide)) (fun k_ hk=>⟨trivial,hk.2⟩))) (fun _ h_=>h_)));(case aB=>exact bl_);(case aF=>exact (fun _ _=>trivial));(case aO=>exact (sm_ HO_10));(case aS=>exact (adz bl_));(case aL=>have:=LMc25.out;omega);intro v537 w26 ho hb hg hat;rw [<-Ny536.out] at ho;have n_:=Zb (Za (hb)) (Za (ho));clear HB HO_10 HO_12;obtain ⟨HB,HO538⟩:=n_;clear ho hb hg hat)))
    go_roundg k3
    case measure=>have:=HJ4.out;have:=HK2.out;have:=HK3.out;omega
    case rel=>exact ⟨(y536),(wrap64 (x11_2+1)),sd_,H',⟨by have:=HJ4.out;have:=HK2.out;have:=HK3.out;omega⟩,⟨xd_ HO538.out⟩,⟨bl_⟩⟩
   rw [Ya c14] at H;have c14b0:=Zd c14;clear c14;have H':=Za H;clear H;have p535:0<=(0:Int):=(by omega);have q535:0<(l3.length:Int):=Zc as_;obtain ⟨ad535,A535_0,c535_0,e535,hx535_0,hl535_0,hi535_0⟩:=at_L4 HR3.out 0 p535 q535;cases e535
   have qi535:(0<l3.length)=True:=Zz (by omega)
   (try rw [show ((0:Int)).toNat=0 from rfl] at hx535_0)
   (try rw [Addr.add_zero'] at hx535_0)
   replace hx535_0:=(HB.out.cell (Zj w _ hx535_0)).trans hx535_0;have HR535_0:=Za hi535_0;have HC535_0:=Za hl535_0;clear hi535_0 hl535_0;replace p535:=Zz p535;replace q535:=Zz q535;go_wp2
   go_loopg [14,15] k3 (fun kq v14 v15 w'=> ∃(x14_4:Int) (x15_4:Int),v14= .int .i64 x14_4/\v15= .int .i64 x15_4/\Aside0 (akz.l2 kq a0 a1 l2 l3 x10_2 x11_2 x12_3 x13_3 x14_4 x15_4=some (r1,r2))/\Aside0 (kq<=k3)/\Aside0 (Kd.S (Kd.slice 3 (Kd.int .i64)) 57 w' w.heap.size (fun k_=>some k_≠(u12:Value).ownBlock) u10 x10_2)/\Aside0 (Kd.R (Kd.int .i64) 3 w' w.heap.size (fun _=>True) u12 x12_3)/\Aside0 (Below w.heap.size w w'))
   case atStart=>exact ⟨(0),(0),sd_,sd_,H',⟨Zv _⟩,⟨xd_ HO_10.out⟩,⟨xd_ HO_12.out⟩,⟨bl_⟩⟩
   clear H';clear c13b0 c13b1 c14b0 hx535_0 p535 q535;obtain ⟨x14_4,x15_4,rfl,rfl,HA,HK4,HO_10,HO_12,HB⟩:=hrel;rcases gk with _|k4
   ·exact Yf HA.out (by simp [akz.l2])
   have H:=HA.out;clear HA;simp only [akz.l2] at H;by_cases c15:x15_4<(l3.length:Int)
   rotate_left
   ·rw [Yb c15] at H;have c15b0:=Ze c15;clear c15;by_cases c23:x12_3.length<17592186044416
    rotate_left
    ·rw [Yb c23] at H;exact Yf H (by simp)
    rw [Ya c23] at H;have LMc23:=Za c23;clear c23;obtain ⟨y544,hy544⟩: ∃y_:List Int,y_=(x12_3++ [x14_4]):=⟨_,rfl⟩
    first|rw [Zl, <-hy544] at H|rw [<-hy544] at H
    (try dsimp only at H)
    have Ny544:=Za hy544;clear hy544;have H':=Za H;clear H
    go_wp2_with (first|((with_reducible refine aoz (b:= .append) (xs:= #[.tmp 74, .tmp 76]) rfl ?_);(try (refine aVz (by rfl) ?_;dsimp only));at_builtin;refine Kd.bmz (Kd.int .i64) (w0:=w) w.heap.size rfl (.tmp 74) (.tmp 76) 57 3 (.int .i64 0) 8 rfl Tryz.underlying57 info3 rfl (by decide) (by omega) u12 x12_3 x14_4 [.int .i64 x14_4] (fun _=>True) (fun _=>False) rfl rfl ?aP (fun _ hk=>hk.elim) ?aF ?aO ?aB ?aS ?aL ?_;(case aP=>exact rfl);(case aB=>exact bl_);(case aF=>exact (fun _ _=>trivial));(case aO=>exact (xd_ HO_12.out));(case aS=>exact (adz bl_));(case aL=>have:=LMc23.out;omega);intro v545 w24 ho hb hg hat;rw [<-Ny544.out] at ho;have n_:=Zb (Za (Kd.cSz (ok:=(fun _=>True)) (sm_ HO_10) hg hat)) (Zb (Za (hb)) (Za (ho)));clear HO_10 HB HO_12;obtain ⟨HO_10,HB,HO546⟩:=n_;clear ho hb hg hat))
    repeat (go_quiet (first|((with_reducible refine aoz (b:= .append) (xs:= #[.tmp 74, .tmp 76]) rfl ?_);(try (refine aVz (by rfl) ?_;dsimp only));at_builtin;refine Kd.bmz (Kd.int .i64) (w0:=w) w.heap.size rfl (.tmp 74) (.tmp 76) 57 3 (.int .i64 0) 8 rfl Tryz.underlying57 info3 rfl (by decide) (by omega) u12 x12_3 x14_4 [.int .i64 x14_4] (fun _=>True) (fun _=>False) rfl rfl ?aP (fun _ hk=>hk.elim) ?aF ?aO ?aB ?aS ?aL ?_;(case aP=>exact rfl);(case aB=>exact bl_);(case aF=>exact (fun _ _=>trivial));(case aO=>exact (xd_ HO_12.out));(case aS=>exact (adz bl_));(case aL=>have:=LMc23.out;omega);intro v545 w24 ho hb hg hat;rw [<-Ny544.out] at ho;have n_:=Zb (Za (Kd.cSz (ok:=(fun _=>True)) (sm_ HO_10) hg hat)) (Zb (Za (hb)) (Za (ho)));clear HO_10 HB HO_12;obtain ⟨HO_10,HB,HO546⟩:=n_;clear ho hb hg hat));try go_wp2_with (first|((with_reducible refine aoz (b:= .append) (xs:= #[.tmp 74, .tmp 76]) rfl ?_);(try (refine aVz (by rfl) ?_;dsimp only));at_builtin;refine Kd.bmz (Kd.int .i64) (w0:=w) w.heap.size rfl (.tmp 74) (.tmp 76) 57 3 (.int .i64 0) 8 rfl Tryz.underlying57 info3 rfl (by decide) (by omega) u12 x12_3 x14_4 [.int .i64 x14_4] (fun _=>True) (fun _=>False) rfl rfl ?aP (fun _ hk=>hk.elim) ?aF ?aO ?aB ?aS ?aL ?_;(case aP=>exact rfl);(case aB=>exact bl_);(case aF=>exact (fun _ _=>trivial));(case aO=>exact (xd_ HO_12.out));(case aS=>exact (adz bl_));(case aL=>have:=LMc23.out;omega);intro v545 w24 ho hb hg hat;rw [<-Ny544.out] at ho;have n_:=Zb (Za (Kd.cSz (ok:=(fun _=>True)) (sm_ HO_10) hg hat)) (Zb (Za (hb)) (Za (ho)));clear HO_10 HB HO_12;obtain ⟨HO_10,HB,HO546⟩:=n_;clear ho hb hg hat)))
    go_roundg k4
    case measure=>have:=HJ4.out;have:=HK2.out;have:=HK3.out;have:=HK4.out;omega
    case rel=>exact ⟨(y544),(wrap64 (x13_3+1)),sd_,H',⟨by have:=HJ4.out;have:=HK2.out;have:=HK3.out;have:=HK4.out;omega⟩,⟨sm_ HO_10⟩,⟨xd_ HO546.out⟩,⟨bl_⟩⟩
   rw [Ya c15] at H;have c15b0:=Zd c15;clear c15;by_cases c16:0<=x11_2
   rotate_left
   ·rw [Yb c16] at H;exact Yf H (by simp)
   rw [Ya c16] at H;have c16b0:=Zd c16;clear c16;by_cases c17:x11_2<(l2.length:Int)
   rotate_left
   ·rw [Yb c17] at H;exact Yf H (by simp)
   rw [Ya c17] at H;have c17b0:=Zd c17;clear c17;by_cases c18:0<=x15_4
   rotate_left
   ·rw [Yb c18] at H;exact Yf H (by simp)
   rw [Ya c18] at H;have c18b0:=Zd c18;clear c18;by_cases c19:x15_4<((rd_L4 l2 x11_2).length:Int)
   rotate_left
   ·rw [Yb c19] at H;exact Yf H (by simp)
   rw [Ya c19] at H;have c19b0:=Zd c19;clear c19;by_cases c20:0<=x13_3
   rotate_left
   ·rw [Yb c20] at H;exact Yf H (by simp)
   rw [Ya c20] at H;have c20b0:=Zd c20;clear c20;by_cases c21:x13_3<((rd_L4 l3 x15_4).length:Int)
   rotate_left
   ·rw [Yb c21] at H;exact Yf H (by simp)
   rw [Ya c21] at H;have c21b0:=Zd c21;clear c21;obtain ⟨t543,A22,H⟩:=ob_ H
   (try dsimp only at H)
   have H':=Za H;clear H;have p539:0<=(x11_2:Int):=Zc as_;have q539:x11_2<(l2.length:Int):=Zc as_;obtain ⟨_,A539_0,c539_0,e539,hx539_0,hl539_0,hi539_0⟩:=at_L4 HR2.out x11_2 p539 q539;cases e539
   replace hx539_0:=(HB.out.cell (Zj w _ hx539_0)).trans hx539_0;have HR539_0:=Za hi539_0;have HC539_0:=Za hl539_0;clear hi539_0 hl539_0;replace p539:=Zz p539;replace q539:=Zz q539;have p540:0<=(x15_4:Int):=Zc as_;have q540:x15_4<((rd_L4 l2 x11_2).length:Int):=Zc as_;obtain ⟨_,e540,hx540_0⟩:=Kd.boz HR539_0.out x15_4 p540 q540;cases e540
   replace hx540_0:=(HB.out.cell (Zj w _ hx540_0)).trans hx540_0;replace p540:=Zz p540;replace q540:=Zz q540;have p541:0<=(x15_4:Int):=Zc as_;have q541:x15_4<(l3.length:Int):=Zc as_;obtain ⟨ad541,A541_0,c541_0,e541,hx541_0,hl541_0,hi541_0⟩:=at_L4 HR3.out x15_4 p541 q541;obtain rfl:ad535=ad541:=(by injection e541);replace hx541_0:=(HB.out.cell (Zj w _ hx541_0)).trans hx541_0;have HR541_0:=Za hi541_0;have HC541_0:=Za hl541_0;clear hi541_0 hl541_0;replace p541:=Zz p541;replace q541:=Zz q541;have p542:0<=(x13_3:Int):=Zc as_;have q542:x13_3<((rd_L4 l3 x15_4).length:Int):=Zc as_;obtain ⟨_,e542,hx542_0⟩:=Kd.boz HR541_0.out x13_3 p542 q542;cases e542
   replace hx542_0:=(HB.out.cell (Zj w _ hx542_0)).trans hx542_0;replace p542:=Zz p542;replace q542:=Zz q542
   go_wp2_with (first|(go_at_call 107;(with_reducible refine (aAz.calls k4 a0 a1 (rd (rd_L4 l2 x11_2) x15_4) (rd (rd_L4 l3 x15_4) x13_3) t543 _ A22.out).mono ?_);rintro e w' ⟨rfl,⟨nd,rfl⟩⟩;(try first|exact ⟨rfl,_,World.drewN_drewN _ _ _⟩|exact ⟨rfl,_,Eq.trans (World.drewN_drewN _ _ _) (congrArg (World.drewN _) (Nat.add_assoc _ _ _))⟩)))
   repeat (go_quiet (first|(go_at_call 107;(with_reducible refine (aAz.calls k4 a0 a1 (rd (rd_L4 l2 x11_2) x15_4) (rd (rd_L4 l3 x15_4) x13_3) t543 _ A22.out).mono ?_);rintro e w' ⟨rfl,⟨nd,rfl⟩⟩;(try first|exact ⟨rfl,_,World.drewN_drewN _ _ _⟩|exact ⟨rfl,_,Eq.trans (World.drewN_drewN _ _ _) (congrArg (World.drewN _) (Nat.add_assoc _ _ _))⟩)));try go_wp2_with (first|(go_at_call 107;(with_reducible refine (aAz.calls k4 a0 a1 (rd (rd_L4 l2 x11_2) x15_4) (rd (rd_L4 l3 x15_4) x13_3) t543 _ A22.out).mono ?_);rintro e w' ⟨rfl,⟨nd,rfl⟩⟩;(try first|exact ⟨rfl,_,World.drewN_drewN _ _ _⟩|exact ⟨rfl,_,Eq.trans (World.drewN_drewN _ _ _) (congrArg (World.drewN _) (Nat.add_assoc _ _ _))⟩))))
   go_roundg k4
   case measure=>have:=HJ4.out;have:=HK2.out;have:=HK3.out;have:=HK4.out;omega
   case rel=>exact ⟨(Go.bits .xor .i64 x14_4 t543),(wrap64 (x15_4+1)),sd_,sd_,H',⟨by have:=HJ4.out;have:=HK2.out;have:=HK3.out;have:=HK4.out;omega⟩,⟨xd_ HO_10.out⟩,⟨xd_ HO_12.out⟩,⟨bl_⟩⟩
def atz.l0:Nat->Int->Int->List (List Int)->List Int->Int->Option ((List (List Int))×Bool)
 |0,_,_,_,_,_=>none
 |k+1,x2,x3,x10,x12,x13=>if x13<x2 then (if x13=(wrap64 (x2 - 1)) then (if x12.length<17592186044416 then (atz.l0 k x2 x3 x10 (x12++ [1]) (wrap64 (x13+1))) else (none)) else (if x12.length<17592186044416 then (atz.l0 k x2 x3 x10 (x12++ [0]) (wrap64 (x13+1))) else (none))) else (if 0<=(wrap64 ((wrap64 (x2+x3)) - 1)) then (if (wrap64 ((wrap64 (x2+x3)) - 1))<(x10.length:Int) then (some ((x10.set ((wrap64 ((wrap64 (x2+x3)) - 1)):Int).toNat x12),true)) else (none)) else (none))
def atz.f (k:Nat) (a0:Int) (a1:Int) (a2:Int) (a3:Int):Option ((List (List Int))×Bool):=(bjz.f a2 a3).bind fun t520=>(if t520=true then ((apz.f k a0 a1 (wrap64 (a2+a3)) a2).bind fun bt521=>(atz.l0 k a2 a3 bt521.1 ([] :List Int) 0)) else (some (([] :List (List Int)),false)))
theorem atz.aXz: ∀k,(∀y0 y1 y2 y3 y4,LeO (atz.l0 k y0 y1 y2 y3 y4) (atz.l0 (k+1) y0 y1 y2 y3 y4))
 |0=>fun _ _ _ _ _ r h=>by simp [atz.l0] at h
 |k+1=>by
  have ih0:=atz.aXz k
  ·intro y0 y1 y2 y3 y4;unfold atz.l0
   repeat' with_reducible first|apply ih0|apply apz.mono|apply Yg|apply Yh|apply Yi|refine Yj ?_ fun _=>?_
theorem atz.mono: ∀a0 a1 a2 a3 k,LeO (atz.f k a0 a1 a2 a3) (atz.f (k+1) a0 a1 a2 a3):=by
 intro a0 a1 a2 a3 k;have ih0:=atz.aXz k;unfold atz.f
 repeat' with_reducible first|apply ih0|apply apz.mono|apply Yg|apply Yh|apply Yi|refine Yj ?_ fun _=>?_
theorem atz.calls (k : Nat) (a0 : Int) (a1 : Int) (a2 : Int) (a3 : Int) (r1 : List (List Int)) (r2 : Bool) (w : World) (h : atz.f k a0 a1 a2 a3 = some (r1, r2)) :
  Calls Tryz.prog 126 #[.int .i64 a0, .int .u32 a1, .int .i64 a2, .int .i64 a3] w fun e w'=> ∃v0_:Value,e= .returned (.tuple #[v0_, .bool r2])/\Kd.S (Kd.slice 3 (Kd.int .i64)) 57 w' w.heap.size (fun _=>True) v0_ r1/\Below w.heap.size w w':=by
 have HB:=Za (Zw w.heap.size w);have H:=h;clear h;unfold atz.f at H;obtain ⟨t520,A5,H⟩:=ob_ H
 (try dsimp only at H)
 by_cases c6:t520=true
 rotate_left
 ·replace c6:=Zr c6;subst c6;rw [Yb (show¬(false=true) by decide)] at H;simp only [Zx,Zy] at H;obtain ⟨rfl,rfl⟩:=H;go_enter Tryz.func126,Tryz.ntmps126
  go_wp2_with (first|((with_reducible refine aaz (f:=129) rfl ?_);refine gl_ (some 17) Tryz.func129 #[.int .i64 a2, .int .i64 a3] ?_;(with_reducible refine (bjz.calls a2 a3 false _ A5.out).mono ?_);rintro e w' ⟨rfl,⟨nd,rfl⟩⟩;refine ⟨_,rfl,?_⟩))
  go_ret2;exact ⟨_,er_,nl_,bl_⟩
 subst c6;rw [Ya rfl] at H;obtain ⟨⟨t521,t522⟩,A7,H⟩:=ob_ H
 (try dsimp only at H)
 have H':=Za H;clear H;go_enter Tryz.func126,Tryz.ntmps126
 go_wp2_with (first|((with_reducible refine aaz (f:=129) rfl ?_);refine gl_ (some 17) Tryz.func129 #[.int .i64 a2, .int .i64 a3] ?_;(with_reducible refine (bjz.calls a2 a3 true _ A5.out).mono ?_);rintro e w' ⟨rfl,⟨nd,rfl⟩⟩;refine ⟨_,rfl,?_⟩)|((with_reducible refine aaz (f:=133) rfl ?_);refine gl_ (some 26) Tryz.func133 #[.int .i64 a0, .int .u32 a1, .int .i64 (wrap64 (a2+a3)), .int .i64 a2] ?_;(with_reducible refine (apz.calls k a0 a1 (wrap64 (a2+a3)) a2 t521 t522 _ A7.out).mono ?_);rintro e w8 ⟨v523,rfl,ho0,hb⟩;refine ⟨_,rfl,?_⟩;have n_:=Zb (Za (Kd.cXz ho0 (adz bl_))) (hs_ HB hb);clear HB;obtain ⟨HO524,HB⟩:=n_;clear hb ho0))
 go_loopg [12,13] k (fun kq v12 v13 w'=> ∃(x12_1:List Int) (x13_1:Int),v13= .int .i64 x13_1/\Aside0 (atz.l0 kq a2 a3 t521 x12_1 x13_1=some (r1,r2))/\Aside0 (kq<=k)/\Aside0 (Kd.S (Kd.slice 3 (Kd.int .i64)) 57 w' w.heap.size (fun k_=>some k_≠(v12:Value).ownBlock) v523 t521)/\Aside0 (Kd.R (Kd.int .i64) 3 w' w.heap.size (fun _=>True) v12 x12_1)/\Aside0 (Below w.heap.size w w'))
 case atStart=>exact ⟨(([] :List Int)),(0),sd_,H',⟨Zv _⟩,⟨sm_ HO524⟩,⟨nl_⟩,⟨bl_⟩⟩
 clear H';obtain ⟨x12_1,x13_1,rfl,HA,HK1,HO_10,HO_12,HB⟩:=hrel;rcases gk with _|k1
 ·exact Yf HA.out (by simp [atz.l0])
 have H:=HA.out;clear HA;simp only [atz.l0] at H;by_cases c9:x13_1<a2
 ·rw [Ya c9] at H;have c9b0:=Zd c9;clear c9;by_cases c10:x13_1=(wrap64 (a2 - 1))
  rotate_left
  ·rw [Yb c10] at H;have c10b0:(x13_1==(wrap64 (a2 - 1)))=false:=Zq c10;have c10b1:(x13_1 !=(wrap64 (a2 - 1)))=true:=Yd c10;by_cases c13:x12_1.length<17592186044416
   rotate_left
   ·rw [Yb c13] at H;exact Yf H (by simp)
   rw [Ya c13] at H;have LMc13:=Za c13;clear c13;obtain ⟨y528,hy528⟩: ∃y_:List Int,y_=(x12_1++ [0]):=⟨_,rfl⟩
   first|rw [Zl, <-hy528] at H|rw [<-hy528] at H
   (try dsimp only at H)
   have Ny528:=Za hy528;clear hy528;have H':=Za H;clear H
   go_wp2_with (first|((with_reducible refine aoz (b:= .append) (xs:= #[.tmp 38, .tmp 40]) rfl ?_);at_builtin;refine Kd.bmz (Kd.int .i64) (w0:=w) w.heap.size rfl (.tmp 38) (.tmp 40) 57 3 (.int .i64 0) 8 rfl Tryz.underlying57 info3 rfl (by decide) (by omega) u12 x12_1 0 [.int .i64 0] (fun _=>True) (fun _=>False) rfl rfl ?aP (fun _ hk=>hk.elim) ?aF ?aO ?aB ?aS ?aL ?_;(case aP=>exact rfl);(case aB=>exact bl_);(case aF=>exact (fun _ _=>trivial));(case aO=>exact (xd_ HO_12.out));(case aS=>exact (adz bl_));(case aL=>have:=LMc13.out;omega);intro v529 w14 ho hb hg hat;rw [<-Ny528.out] at ho;have n_:=Zb (Za (Kd.cSz (ok:=(fun _=>True)) (sm_ HO_10) hg hat)) (Zb (Za (hb)) (Za (ho)));clear HO_10 HB HO_12;obtain ⟨HO_10,HB,HO530⟩:=n_;clear ho hb hg hat))
   go_roundg k1
   case measure=>have:=HK1.out;omega
   case rel=>exact ⟨(y528),(wrap64 (x13_1+1)),sd_,H',⟨by have:=HK1.out;omega⟩,⟨sm_ HO_10⟩,⟨xd_ HO530.out⟩,⟨bl_⟩⟩
  rw [Ya c10] at H;have c10b0:(x13_1==(wrap64 (a2 - 1)))=true:=Ye c10;have c10b1:(x13_1 !=(wrap64 (a2 - 1)))=false:=Yc c10;clear c10;by_cases c11:x12_1.length<17592186044416
  rotate_left
  ·rw [Yb c11] at H;exact Yf H (by simp)
  rw [Ya c11] at H;have LMc11:=Za c11;clear c11;obtain ⟨y525,hy525⟩: ∃y_:List Int,y_=(x12_1++ [1]):=⟨_,rfl⟩
  first|rw [Zl, <-hy525] at H|rw [<-hy525] at H
  (try dsimp only at H)
  have Ny525:=Za hy525;clear hy525;have H':=Za H;clear H
  go_wp2_with (first|((with_reducible refine aoz (b:= .append) (xs:= #[.tmp 38, .tmp 40]) rfl ?_);at_builtin;refine Kd.bmz (Kd.int .i64) (w0:=w) w.heap.size rfl (.tmp 38) (.tmp 40) 57 3 (.int .i64 0) 8 rfl Tryz.underlying57 info3 rfl (by decide) (by omega) u12 x12_1 1 [.int .i64 1] (fun _=>True) (fun _=>False) rfl rfl ?aP (fun _ hk=>hk.elim) ?aF ?aO ?aB ?aS ?aL ?_;(case aP=>exact rfl);(case aB=>exact bl_);(case aF=>exact (fun _ _=>trivial));(case aO=>exact (xd_ HO_12.out));(case aS=>exact (adz bl_));(case aL=>have:=LMc11.out;omega);intro v526 w12 ho hb hg hat;rw [<-Ny525.out] at ho;have n_:=Zb (Za (Kd.cSz (ok:=(fun _=>True)) (sm_ HO_10) hg hat)) (Zb (Za (hb)) (Za (ho)));clear HO_10 HB HO_12;obtain ⟨HO_10,HB,HO527⟩:=n_;clear ho hb hg hat))
  go_roundg k1
  case measure=>have:=HK1.out;omega
  case rel=>exact ⟨(y525),(wrap64 (x13_1+1)),sd_,H',⟨by have:=HK1.out;omega⟩,⟨sm_ HO_10⟩,⟨xd_ HO527.out⟩,⟨bl_⟩⟩
 ·rw [Yb c9] at H;have c9b0:=Ze c9;clear c9;obtain ⟨ji15,hji15⟩: ∃j_:Int,(wrap64 ((wrap64 (a2+a3)) - 1))=j_:=⟨_,rfl⟩
  replace H:(if 0<=(ji15) then (if (ji15)<(t521.length:Int) then (some ((t521.set ((ji15):Int).toNat x12_1),true)) else (none)) else (none))=some (r1,r2):=by first|(rw [hji15] at H;exact H)|(simp only [hji15] at H|-;exact H)
  have hji15w:(IntKind.i64.wrap ((wrap64 (a2+a3)) - 1))=ji15:=(i64_w _).trans hji15;by_cases c16:0<=(ji15)
  rotate_left
  ·rw [Yb c16] at H;exact Yf H (by simp)
  rw [Ya c16] at H;have c16b0:=Zd c16;clear c16;by_cases c17:(ji15)<(t521.length:Int)
  rotate_left
  ·rw [Yb c17] at H;exact Yf H (by simp)
  rw [Ya c17] at H;have c17b0:=Zd c17;clear c17;obtain ⟨y531,hy531⟩: ∃y_:List (List Int),y_=(t521.set ((ji15):Int).toNat x12_1):=⟨_,rfl⟩
  first|rw [Zl, <-hy531] at H|rw [<-hy531] at H
  (try dsimp only at H)
  have Ny531:=Za hy531;clear hy531;simp only [Zx,Zy] at H;obtain ⟨rfl,rfl⟩:=H;have p18:0<=((ji15):Int):=Zc as_;have q18:((ji15):Int)<((t521.length:Int):Int):=Zc as_;obtain ⟨go18,co18,eo18,gb18,gl18,cl18,HG18⟩:=Kd.S_form HO_10.out (by omega)
  (first|cases eo18|(injection eo18 with ea_ en_ ec_;(first|subst ea_|(injection ea_ with ea_;subst ea_));subst ec_;clear en_))
  have GB18:=Za gb18;have GG18:=Za HG18;clear gb18 gl18 HG18;obtain ⟨_,ce18,hcl18,hM18,hcc18,hfr18,_,_⟩:=Kd.S_elem HO_10.out [] ((ji15):Int) p18 q18;obtain ⟨ve18_0,rfl,ge18_0⟩:=hM18;have hx18_0:=hcc18 0 _ rfl;have hf18_0:=hfr18 0
  (try simp only [show ((Kd.slice 3 (Kd.int .i64))).sz=1 from rfl,Nat.mul_one,Nat.add_zero] at hx18_0)
  (try simp only [show ((Kd.slice 3 (Kd.int .i64))).sz=1 from rfl,Nat.mul_one,Nat.add_zero] at hf18_0)
  clear hcl18 hcc18 hfr18;replace p18:=Zz p18;replace q18:=Zz q18;have HX19:=Za (show Kd.S (Kd.slice 3 (Kd.int .i64)) 57 wr w.heap.size (fun k_=>((fun _=>True)) k_/\ ¬((fun k_=>some k_=(u12:Value).ownBlock)) k_) (.slice (some ⟨go18,0,none⟩) t521.length co18) t521 from (sm_ HO_10));obtain ⟨oki19,ce19,hcl19,hM19,hcc19,hfr19,hoki19,hH19⟩:=Kd.S_elem HX19.out [] ((ji15):Int) (Zc as_) (by have h_:((ji15):Int)<((t521.length:Int):Int):=Zc as_;first|exact h_|(have e_:=(Kd.dSz HO_10.out).1;omega)|simpa using h_);obtain ⟨ve19_0,rfl,ge19_0⟩:=hM19;have HP19:=Kd.S_seg hH19 (Zc as_) (by have h_:((ji15):Int)<((t521.length:Int):Int):=Zc as_;first|exact h_|(have e_:=(Kd.dSz HO_10.out).1;omega)|simpa using h_) (seg:= [u12]) (j:=0) (show 1<=1 from by decide) (x':=x12_1) (Kd.M_row (Kd.aSz (Kd.cgz rfl (Kd.aSz (ok':=fun k_=>((fun _=>True)) k_/\k_≠go18) (Kd.bxz (HO_12.out) (Kd.bQz HO_10.out) (by decide)) (fun k_ hk=>⟨trivial,fun e_=>(hk.2) (by rw [e_];rfl)⟩))) (fun _ h_=>Or.inr (h_)))) (fun _ hk=>hk) (fun k_ hk_=>((Kd.aSz (ok':=fun k_=>((fun _=>True)) k_/\k_≠go18) (Kd.bxz (HO_12.out) (Kd.bQz HO_10.out) (by decide)) (fun k_ hk=>⟨trivial,fun e_=>(hk.2) (by rw [e_];rfl)⟩))).1 k_ hk_.symm)
  have hx19_0:=hcc19 0 _ rfl
  (try simp only [show ((Kd.slice 3 (Kd.int .i64))).sz=1 from rfl,Nat.mul_one,Nat.add_zero] at hx19_0)
  have hf19_0:=hfr19 0
  (try simp only [show ((Kd.slice 3 (Kd.int .i64))).sz=1 from rfl,Nat.mul_one,Nat.add_zero] at hf19_0)
  clear hcl19 hcc19 hfr19  hoki19 hH19
  (try simp only [show ((Kd.slice 3 (Kd.int .i64))).sz=1 from rfl,Nat.mul_one,Nat.add_zero] at HP19)
  obtain ⟨sa12_,sc12_,hu12_⟩:=Kd.a3z HO_12.out
  go_wp2_with (first|((with_reducible refine dkz (t:=57) (p:=48) rfl ?_);refine dZz (t:=57) (p:=48) (v:= ?vo_w20) (w1:=(wr.setCell ⟨go18,((ji15):Int).toNat,none⟩ (u12))) ?hg ?ho ?hn ?hr ?_;(case ho=>rfl);(case hg=>rfl);(case hn=>rfl);(case hr=>first|(go_simp;done)|(go_simp;rfl));intro w20 hw;have hg:wr.grownBy w20 (some go18):=(by rw [hw];exact HP19.2);have hp_:Kd.S (Kd.slice 3 (Kd.int .i64)) 57 w20 w.heap.size (fun _=>True) (.slice (some ⟨go18,0,none⟩) t521.length co18) y531:=(by rw [hw,Ny531.out];exact HP19.1);clear HP19;have n_:=Zb (Za (hp_)) (Za ((by rw [hw];exact dEz (HB.out) GB18.out:Below w.heap.size w w20)));clear HO_10 HB HO_12;obtain ⟨HO_10,HB⟩:=n_;clear hg hw hp_))
  go_ret2;exact ⟨_,by first|rfl|(simp [ckz,clz] <;>rfl)|(simp only [<-hji15];first|rfl|(simp [ckz,clz] <;>rfl))|(simp [*,ckz,clz] <;>rfl),xd_ HO_10.out,bl_⟩
def bWz.f (k:Nat) (a0:Int) (a1:Int) (a2:Int) (a3:Int):Option (Int×Bool):=(asz.f k a0 a1 a3).bind fun bt547=>(if bt547.2=true then ((afz.f k a0 a2).bind fun t549=>(if t549=true then ((aAz.f k a0 a1 a2 bt547.1).bind fun t550=>(some (t550,true))) else (some (0,false)))) else (some (0,false)))
theorem bWz.mono: ∀a0 a1 a2 a3 k,LeO (bWz.f k a0 a1 a2 a3) (bWz.f (k+1) a0 a1 a2 a3):=by
 intro a0 a1 a2 a3 k;unfold bWz.f
 repeat' with_reducible first|apply afz.mono|apply asz.mono|apply aAz.mono|apply Yg|apply Yh|apply Yi|refine Yj ?_ fun _=>?_
theorem bWz.calls (k : Nat) (a0 : Int) (a1 : Int) (a2 : Int) (a3 : Int) (r1 : Int) (r2 : Bool) (w : World) (h : bWz.f k a0 a1 a2 a3 = some (r1, r2)) :
  Calls Tryz.prog 167 #[.int .i64 a0, .int .u32 a1, .int .i64 a2, .int .i64 a3] w fun e w'=>e= .returned (.tuple #[.int .i64 r1, .bool r2])/\Drawn0 w w':=by
 have H:=h;clear h;unfold bWz.f at H;obtain ⟨⟨t547,t548⟩,A5,H⟩:=ob_ H
 (try dsimp only at H)
 by_cases c6:t548=true
 rotate_left
 ·replace c6:=Zr c6;subst c6;rw [Yb (show¬(false=true) by decide)] at H;simp only [Zx,Zy] at H;obtain ⟨rfl,rfl⟩:=H;go_enter Tryz.func167,Tryz.ntmps167
  go_wp2_with (first|((with_reducible refine aaz (f:=146) rfl ?_);refine gl_ (some 16) Tryz.func146 #[.int .i64 a0, .int .u32 a1, .int .i64 a3] ?_;(with_reducible refine (asz.calls k a0 a1 a3 t547 false _ A5.out).mono ?_);rintro e w' ⟨rfl,⟨nd,rfl⟩⟩;refine ⟨_,rfl,?_⟩))
  go_ret2;exact ⟨sd_,dn_⟩
 subst c6;rw [Ya rfl] at H;obtain ⟨t549,A7,H⟩:=ob_ H
 (try dsimp only at H)
 by_cases c8:t549=true
 ·subst c8;rw [Ya rfl] at H;obtain ⟨t550,A9,H⟩:=ob_ H
  (try dsimp only at H)
  simp only [Zx,Zy] at H;obtain ⟨rfl,rfl⟩:=H;go_enter Tryz.func167,Tryz.ntmps167
  go_wp2_with (first|((with_reducible refine aaz (f:=146) rfl ?_);refine gl_ (some 16) Tryz.func146 #[.int .i64 a0, .int .u32 a1, .int .i64 a3] ?_;(with_reducible refine (asz.calls k a0 a1 a3 t547 true _ A5.out).mono ?_);rintro e w' ⟨rfl,⟨nd,rfl⟩⟩;refine ⟨_,rfl,?_⟩)|(go_at_call 106;(with_reducible refine (afz.calls k a0 a2 true _ A7.out).mono ?_);rintro e w' ⟨rfl,⟨nd,rfl⟩⟩)|((with_reducible refine aaz (f:=107) rfl ?_);refine gl_ (some 31) Tryz.func107 #[.int .i64 a0, .int .u32 a1, .int .i64 a2, .int .i64 t547] ?_;(with_reducible refine (aAz.calls k a0 a1 a2 t547 t550 _ A9.out).mono ?_);rintro e w' ⟨rfl,⟨nd,rfl⟩⟩;refine ⟨_,rfl,?_⟩))
  go_ret2;exact ⟨sd_,dn_⟩
 ·replace c8:=Zr c8;subst c8;rw [Yb (show¬(false=true) by decide)] at H;simp only [Zx,Zy] at H;obtain ⟨rfl,rfl⟩:=H;go_enter Tryz.func167,Tryz.ntmps167
  go_wp2_with (first|((with_reducible refine aaz (f:=146) rfl ?_);refine gl_ (some 16) Tryz.func146 #[.int .i64 a0, .int .u32 a1, .int .i64 a3] ?_;(with_reducible refine (asz.calls k a0 a1 a3 t547 true _ A5.out).mono ?_);rintro e w' ⟨rfl,⟨nd,rfl⟩⟩;refine ⟨_,rfl,?_⟩)|(go_at_call 106;(with_reducible refine (afz.calls k a0 a2 false _ A7.out).mono ?_);rintro e w' ⟨rfl,⟨nd,rfl⟩⟩))
  go_ret2;exact ⟨sd_,dn_⟩
def bbz.f (k:Nat) (a0:Int) (a1:Int) (a2:Int) (a3:Int):Option (Int):=(bWz.f k a0 a1 a2 a3).bind fun bt551=>(some bt551.1)
theorem bbz.mono: ∀a0 a1 a2 a3 k,LeO (bbz.f k a0 a1 a2 a3) (bbz.f (k+1) a0 a1 a2 a3):=by
 intro a0 a1 a2 a3 k;unfold bbz.f
 repeat' with_reducible first|apply bWz.mono|apply Yg|apply Yh|apply Yi|refine Yj ?_ fun _=>?_
theorem bbz.calls (k : Nat) (a0 : Int) (a1 : Int) (a2 : Int) (a3 : Int) (r : Int) (w : World) (h : bbz.f k a0 a1 a2 a3 = some r) :
  Calls Tryz.prog 128 #[.int .i64 a0, .int .u32 a1, .int .i64 a2, .int .i64 a3] w fun e w'=>e= .returned (.int .i64 r)/\Drawn0 w w':=by
 have H:=h;clear h;unfold bbz.f at H;obtain ⟨⟨t551,t552⟩,A5,H⟩:=ob_ H
 (try dsimp only at H)
 obtain rfl:=Zn H;go_enter Tryz.func128,Tryz.ntmps128
 go_wp2_with (first|((with_reducible refine aaz (f:=167) rfl ?_);refine gl_ (some 16) Tryz.func167 #[.int .i64 a0, .int .u32 a1, .int .i64 a2, .int .i64 a3] ?_;(with_reducible refine (bWz.calls k a0 a1 a2 a3 t551 t552 _ A5.out).mono ?_);rintro e w' ⟨rfl,⟨nd,rfl⟩⟩;refine ⟨_,rfl,?_⟩))
 go_ret;exact ⟨sd_,dn_⟩
end Go.Proofs.Xc
end
