-- Joined texts of this work (wip/tools/bundle.py).
import Derived.Test.YtpdakdcmahlghaaGreatBReconUpdates7
set_option maxHeartbeats 8000000
set_option maxRecDepth 100000
set_option linter.unusedVariables false
set_option linter.unusedSimpArgs false
section
namespace Go.Proofs.Xc
open Go.RowKit Go.Proofs.Pw Go.Proofs.Pl Go.Proofs.Pm
attribute [local go_sem] a7z a8z bjz bkz aZz a0z a9z baz
mutual
def akz.j0:Nat->Int->Int->List (List Int)->List (List Int)->Bool->Option ((List (List Int))×Bool)
 |0,_,_,_,_,_=>none
 |k+1,x0,x1,x2,x3,x34=>if x34=true then (some (([] :List (List Int)),false)) else (akz.l0 k x0 x1 x2 x3 ([] :List (List Int)) 0)
def akz.l0:Nat->Int->Int->List (List Int)->List (List Int)->List (List Int)->Int->Option ((List (List Int))×Bool)
 |0,_,_,_,_,_,_=>none
 |k+1,x0,x1,x2,x3,x10,x11=>if x11<(x2.length:Int) then (akz.l1 k x0 x1 x2 x3 x10 x11 ([] :List Int) 0) else (some (x10,true))
def akz.l1:Nat->Int->Int->List (List Int)->List (List Int)->List (List Int)->Int->List Int->Int->Option ((List (List Int))×Bool)
 |0,_,_,_,_,_,_,_,_=>none
 |k+1,x0,x1,x2,x3,x10,x11,x12,x13=>if 0<(x3.length:Int) then (if x13<((rd_L4 x3 0).length:Int) then (akz.l2 k x0 x1 x2 x3 x10 x11 x12 x13 0 0) else (if x10.length<5864062014805 then (akz.l0 k x0 x1 x2 x3 (x10++ [x12]) (wrap64 (x11+1))) else (none))) else (none)
def akz.l2:Nat->Int->Int->List (List Int)->List (List Int)->List (List Int)->Int->List Int->Int->Int->Int->Option ((List (List Int))×Bool)
 |0,_,_,_,_,_,_,_,_,_,_=>none
 |k+1,x0,x1,x2,x3,x10,x11,x12,x13,x14,x15=>if x15<(x3.length:Int) then (if 0<=x11 then (if x11<(x2.length:Int) then (if 0<=x15 then (if x15<((rd_L4 x2 x11).length:Int) then (if 0<=x13 then (if x13<((rd_L4 x3 x15).length:Int) then ((axz.f k x0 x1 (rd (rd_L4 x2 x11) x15) (rd (rd_L4 x3 x15) x13)).bind fun t246=>(akz.l2 k x0 x1 x2 x3 x10 x11 x12 x13 (Go.bits .xor .i64 x14 t246) (wrap64 (x15+1)))) else (none)) else (none)) else (none)) else (none)) else (none)) else (none)) else (if x12.length<17592186044416 then (akz.l1 k x0 x1 x2 x3 x10 x11 (x12++ [x14]) (wrap64 (x13+1))) else (none))
end
def akz.f (k:Nat) (a0:Int) (a1:Int) (l2:List (List Int)) (l3:List (List Int)):Option ((List (List Int))×Bool):=(adz.f k a0 l2).bind fun t235=>(if t235=true then ((adz.f k a0 l3).bind fun t236=>(if t236=true then (if 0<(l2.length:Int) then (akz.j0 k a0 a1 l2 l3 (((rd_L4 l2 0).length:Int) !=(l3.length:Int))) else (none)) else (akz.j0 k a0 a1 l2 l3 true))) else (akz.j0 k a0 a1 l2 l3 true))
theorem akz.aVz: ∀k,(∀y0 y1 y2 y3 y4,LeO (akz.j0 k y0 y1 y2 y3 y4) (akz.j0 (k+1) y0 y1 y2 y3 y4))/\(∀y0 y1 y2 y3 y4 y5,LeO (akz.l0 k y0 y1 y2 y3 y4 y5) (akz.l0 (k+1) y0 y1 y2 y3 y4 y5))/\(∀y0 y1 y2 y3 y4 y5 y6 y7,LeO (akz.l1 k y0 y1 y2 y3 y4 y5 y6 y7) (akz.l1 (k+1) y0 y1 y2 y3 y4 y5 y6 y7))/\(∀y0 y1 y2 y3 y4 y5 y6 y7 y8 y9,LeO (akz.l2 k y0 y1 y2 y3 y4 y5 y6 y7 y8 y9) (akz.l2 (k+1) y0 y1 y2 y3 y4 y5 y6 y7 y8 y9))
 |0=>⟨fun _ _ _ _ _ r h=>by simp [akz.j0] at h,fun _ _ _ _ _ _ r h=>by simp [akz.l0] at h,fun _ _ _ _ _ _ _ _ r h=>by simp [akz.l1] at h,fun _ _ _ _ _ _ _ _ _ _ r h=>by simp [akz.l2] at h⟩
 |k+1=>by
  obtain ⟨ih0,ih1,ih2,ih3⟩:=akz.aVz k;refine ⟨?_,?_,?_,?_⟩
  ·intro y0 y1 y2 y3 y4;unfold akz.j0
   repeat' with_reducible first|apply ih0|apply ih1|apply ih2|apply ih3|apply axz.mono|apply adz.mono|apply Yg|apply Yh|apply Yi|refine Yj ?_ fun _=>?_
  ·intro y0 y1 y2 y3 y4 y5;unfold akz.l0
   repeat' with_reducible first|apply ih0|apply ih1|apply ih2|apply ih3|apply axz.mono|apply adz.mono|apply Yg|apply Yh|apply Yi|refine Yj ?_ fun _=>?_
  ·intro y0 y1 y2 y3 y4 y5 y6 y7;unfold akz.l1
   repeat' with_reducible first|apply ih0|apply ih1|apply ih2|apply ih3|apply axz.mono|apply adz.mono|apply Yg|apply Yh|apply Yi|refine Yj ?_ fun _=>?_
  ·intro y0 y1 y2 y3 y4 y5 y6 y7 y8 y9;unfold akz.l2
   repeat' with_reducible first|apply ih0|apply ih1|apply ih2|apply ih3|apply axz.mono|apply adz.mono|apply Yg|apply Yh|apply Yi|refine Yj ?_ fun _=>?_
theorem akz.mono: ∀a0 a1 a2 a3 k,LeO (akz.f k a0 a1 a2 a3) (akz.f (k+1) a0 a1 a2 a3):=by
 intro a0 a1 a2 a3 k;obtain ⟨ih0,ih1,ih2,ih3⟩:=akz.aVz k;unfold akz.f
 repeat' with_reducible first|apply ih0|apply ih1|apply ih2|apply ih3|apply axz.mono|apply adz.mono|apply Yg|apply Yh|apply Yi|refine Yj ?_ fun _=>?_
theorem akz.calls (k : Nat) (a0 : Int) (a1 : Int) (A2 : Option Addr) (c2 : Nat) (l2 : List (List Int)) (A3 : Option Addr) (c3 : Nat) (l3 : List (List Int)) (r1 : List (List Int)) (r2 : Bool) (w : World) (hr2 : Kd.C (Kd.slice 3 (Kd.int .i64)) w A2 l2.length l2) (hc2 : l2.length <= c2) (hr3 : Kd.C (Kd.slice 3 (Kd.int .i64)) w A3 l3.length l3) (hc3 : l3.length <= c3) (h : akz.f k a0 a1 l2 l3 = some (r1, r2)) :
  Calls Tryz.prog 127 #[.int .i64 a0, .int .u32 a1, .slice A2 l2.length c2, .slice A3 l3.length c3] w fun e w'=> ∃v0_:Value,e= .returned (.tuple #[v0_, .bool r2])/\Kd.S (Kd.slice 3 (Kd.int .i64)) 57 w' w.heap.size (fun _=>True) v0_ r1/\Below w.heap.size w w':=by
 have HR2:=Za hr2;have HC2:=Za hc2;clear hr2 hc2;have HR3:=Za hr3;have HC3:=Za hc3;clear hr3 hc3;have HB:=Za (Zw w.heap.size w);have H:=h;clear h;unfold akz.f at H;have HC5:=Za H;clear H;go_enter Tryz.func127,Tryz.ntmps127
 go_upto_region 1 with (fail)
 repeat (go_quiet (fail);go_upto_region 1 with (fail))
 go_cut [34] (fun v34 wc=> ∃(kq:Nat) (x34_4:Bool),v34= .bool x34_4/\Aside0 (akz.j0 kq a0 a1 l2 l3 x34_4=some (r1,r2))/\Aside0 (kq<=k)/\Aside0 (Below w.heap.size w wc))
 case first=>
  have H:=HC5.out;clear HC5;obtain ⟨t235,A6,H⟩:=ob_ H
  (try dsimp only at H)
  by_cases c7:t235=true
  rotate_left
  ·replace c7:=Zr c7;subst c7;rw [Yb (show¬(false=true) by decide)] at H;have H':=Za H;clear H
   go_wp2_with (first|(go_at_call 98;(with_reducible refine (adz.calls k a0 _ _ l2 false _ (xd_ (Kd.azz HR2.out HB.out)) (HC2.out) A6.out).mono ?_);rintro e w' ⟨rfl,⟨nd,rfl⟩⟩;(try first|exact ⟨rfl,_,World.drewN_drewN _ _ _⟩|exact ⟨rfl,_,Eq.trans (World.drewN_drewN _ _ _) (congrArg (World.drewN _) (Nat.add_assoc _ _ _))⟩)))
   repeat (go_quiet (first|(go_at_call 98;(with_reducible refine (adz.calls k a0 _ _ l2 false _ (xd_ (Kd.azz HR2.out HB.out)) (HC2.out) A6.out).mono ?_);rintro e w' ⟨rfl,⟨nd,rfl⟩⟩;(try first|exact ⟨rfl,_,World.drewN_drewN _ _ _⟩|exact ⟨rfl,_,Eq.trans (World.drewN_drewN _ _ _) (congrArg (World.drewN _) (Nat.add_assoc _ _ _))⟩)));try go_wp2_with (first|(go_at_call 98;(with_reducible refine (adz.calls k a0 _ _ l2 false _ (xd_ (Kd.azz HR2.out HB.out)) (HC2.out) A6.out).mono ?_);rintro e w' ⟨rfl,⟨nd,rfl⟩⟩;(try first|exact ⟨rfl,_,World.drewN_drewN _ _ _⟩|exact ⟨rfl,_,Eq.trans (World.drewN_drewN _ _ _) (congrArg (World.drewN _) (Nat.add_assoc _ _ _))⟩))))
   go_meet
   case rel=>exact ⟨_,(true),sd_,H',⟨by first|omega|exact Zv _⟩,⟨bl_⟩⟩
  subst c7;rw [Ya rfl] at H;obtain ⟨t236,A8,H⟩:=ob_ H
  (try dsimp only at H)
  by_cases c9:t236=true
  rotate_left
  ·replace c9:=Zr c9;subst c9;rw [Yb (show¬(false=true) by decide)] at H;have H':=Za H;clear H
   go_wp2_with (first|(go_at_call 98;(with_reducible refine (adz.calls k a0 _ _ l2 true _ (xd_ (Kd.azz HR2.out HB.out)) (HC2.out) A6.out).mono ?_);rintro e w' ⟨rfl,⟨nd,rfl⟩⟩;(try first|exact ⟨rfl,_,World.drewN_drewN _ _ _⟩|exact ⟨rfl,_,Eq.trans (World.drewN_drewN _ _ _) (congrArg (World.drewN _) (Nat.add_assoc _ _ _))⟩))|(go_at_call 98;(with_reducible refine (adz.calls k a0 _ _ l3 false _ (xd_ (Kd.azz HR3.out bl_)) (HC3.out) A8.out).mono ?_);rintro e w' ⟨rfl,⟨nd,rfl⟩⟩;(try first|exact ⟨rfl,_,World.drewN_drewN _ _ _⟩|exact ⟨rfl,_,Eq.trans (World.drewN_drewN _ _ _) (congrArg (World.drewN _) (Nat.add_assoc _ _ _))⟩)))
   repeat (go_quiet (first|(go_at_call 98;(with_reducible refine (adz.calls k a0 _ _ l2 true _ (xd_ (Kd.azz HR2.out HB.out)) (HC2.out) A6.out).mono ?_);rintro e w' ⟨rfl,⟨nd,rfl⟩⟩;(try first|exact ⟨rfl,_,World.drewN_drewN _ _ _⟩|exact ⟨rfl,_,Eq.trans (World.drewN_drewN _ _ _) (congrArg (World.drewN _) (Nat.add_assoc _ _ _))⟩))|(go_at_call 98;(with_reducible refine (adz.calls k a0 _ _ l3 false _ (xd_ (Kd.azz HR3.out bl_)) (HC3.out) A8.out).mono ?_);rintro e w' ⟨rfl,⟨nd,rfl⟩⟩;(try first|exact ⟨rfl,_,World.drewN_drewN _ _ _⟩|exact ⟨rfl,_,Eq.trans (World.drewN_drewN _ _ _) (congrArg (World.drewN _) (Nat.add_assoc _ _ _))⟩)));try go_wp2_with (first|(go_at_call 98;(with_reducible refine (adz.calls k a0 _ _ l2 true _ (xd_ (Kd.azz HR2.out HB.out)) (HC2.out) A6.out).mono ?_);rintro e w' ⟨rfl,⟨nd,rfl⟩⟩;(try first|exact ⟨rfl,_,World.drewN_drewN _ _ _⟩|exact ⟨rfl,_,Eq.trans (World.drewN_drewN _ _ _) (congrArg (World.drewN _) (Nat.add_assoc _ _ _))⟩))|(go_at_call 98;(with_reducible refine (adz.calls k a0 _ _ l3 false _ (xd_ (Kd.azz HR3.out bl_)) (HC3.out) A8.out).mono ?_);rintro e w' ⟨rfl,⟨nd,rfl⟩⟩;(try first|exact ⟨rfl,_,World.drewN_drewN _ _ _⟩|exact ⟨rfl,_,Eq.trans (World.drewN_drewN _ _ _) (congrArg (World.drewN _) (Nat.add_assoc _ _ _))⟩))))
   go_meet
   case rel=>exact ⟨_,(true),sd_,H',⟨by first|omega|exact Zv _⟩,⟨bl_⟩⟩
  subst c9;rw [Ya rfl] at H;by_cases c10:0<(l2.length:Int)
  ·rw [Ya c10] at H;have c10b0:=Zd c10;have c10b1:decide (0<l2.length)=true:=Zd (by omega);clear c10;have H':=Za H;clear H
   go_wp2_with (first|(go_at_call 98;(with_reducible refine (adz.calls k a0 _ _ l2 true _ (xd_ (Kd.azz HR2.out HB.out)) (HC2.out) A6.out).mono ?_);rintro e w' ⟨rfl,⟨nd,rfl⟩⟩;(try first|exact ⟨rfl,_,World.drewN_drewN _ _ _⟩|exact ⟨rfl,_,Eq.trans (World.drewN_drewN _ _ _) (congrArg (World.drewN _) (Nat.add_assoc _ _ _))⟩))|(go_at_call 98;(with_reducible refine (adz.calls k a0 _ _ l3 true _ (xd_ (Kd.azz HR3.out bl_)) (HC3.out) A8.out).mono ?_);rintro e w' ⟨rfl,⟨nd,rfl⟩⟩;(try first|exact ⟨rfl,_,World.drewN_drewN _ _ _⟩|exact ⟨rfl,_,Eq.trans (World.drewN_drewN _ _ _) (congrArg (World.drewN _) (Nat.add_assoc _ _ _))⟩);have p237:0<=(0:Int):=(by omega);have q237:0<(l2.length:Int):=Zc as_;obtain ⟨_,A237_0,c237_0,e237,hx237_0,hl237_0,hi237_0⟩:=at_L4 HR2.out 0 p237 q237;cases e237;have qi237:(0<l2.length)=True:=Zz (by omega);(try rw [show ((0:Int)).toNat=0 from rfl] at hx237_0);(try rw [Addr.add_zero'] at hx237_0);replace hx237_0:=(HB.out.cell (Zj w _ hx237_0)).trans hx237_0;have HR237_0:=Za hi237_0;have HC237_0:=Za hl237_0;clear hi237_0 hl237_0;replace p237:=Zz p237;replace q237:=Zz q237))
   repeat (go_quiet (first|(go_at_call 98;(with_reducible refine (adz.calls k a0 _ _ l2 true _ (xd_ (Kd.azz HR2.out HB.out)) (HC2.out) A6.out).mono ?_);rintro e w' ⟨rfl,⟨nd,rfl⟩⟩;(try first|exact ⟨rfl,_,World.drewN_drewN _ _ _⟩|exact ⟨rfl,_,Eq.trans (World.drewN_drewN _ _ _) (congrArg (World.drewN _) (Nat.add_assoc _ _ _))⟩))|(go_at_call 98;(with_reducible refine (adz.calls k a0 _ _ l3 true _ (xd_ (Kd.azz HR3.out bl_)) (HC3.out) A8.out).mono ?_);rintro e w' ⟨rfl,⟨nd,rfl⟩⟩;(try first|exact ⟨rfl,_,World.drewN_drewN _ _ _⟩|exact ⟨rfl,_,Eq.trans (World.drewN_drewN _ _ _) (congrArg (World.drewN _) (Nat.add_assoc _ _ _))⟩);have p237:0<=(0:Int):=(by omega);have q237:0<(l2.length:Int):=Zc as_;obtain ⟨_,A237_0,c237_0,e237,hx237_0,hl237_0,hi237_0⟩:=at_L4 HR2.out 0 p237 q237;cases e237;have qi237:(0<l2.length)=True:=Zz (by omega);(try rw [show ((0:Int)).toNat=0 from rfl] at hx237_0);(try rw [Addr.add_zero'] at hx237_0);replace hx237_0:=(HB.out.cell (Zj w _ hx237_0)).trans hx237_0;have HR237_0:=Za hi237_0;have HC237_0:=Za hl237_0;clear hi237_0 hl237_0;replace p237:=Zz p237;replace q237:=Zz q237));try go_wp2_with (first|(go_at_call 98;(with_reducible refine (adz.calls k a0 _ _ l2 true _ (xd_ (Kd.azz HR2.out HB.out)) (HC2.out) A6.out).mono ?_);rintro e w' ⟨rfl,⟨nd,rfl⟩⟩;(try first|exact ⟨rfl,_,World.drewN_drewN _ _ _⟩|exact ⟨rfl,_,Eq.trans (World.drewN_drewN _ _ _) (congrArg (World.drewN _) (Nat.add_assoc _ _ _))⟩))|(go_at_call 98;(with_reducible refine (adz.calls k a0 _ _ l3 true _ (xd_ (Kd.azz HR3.out bl_)) (HC3.out) A8.out).mono ?_);rintro e w' ⟨rfl,⟨nd,rfl⟩⟩;(try first|exact ⟨rfl,_,World.drewN_drewN _ _ _⟩|exact ⟨rfl,_,Eq.trans (World.drewN_drewN _ _ _) (congrArg (World.drewN _) (Nat.add_assoc _ _ _))⟩);have p237:0<=(0:Int):=(by omega);have q237:0<(l2.length:Int):=Zc as_;obtain ⟨_,A237_0,c237_0,e237,hx237_0,hl237_0,hi237_0⟩:=at_L4 HR2.out 0 p237 q237;cases e237;have qi237:(0<l2.length)=True:=Zz (by omega);(try rw [show ((0:Int)).toNat=0 from rfl] at hx237_0);(try rw [Addr.add_zero'] at hx237_0);replace hx237_0:=(HB.out.cell (Zj w _ hx237_0)).trans hx237_0;have HR237_0:=Za hi237_0;have HC237_0:=Za hl237_0;clear hi237_0 hl237_0;replace p237:=Zz p237;replace q237:=Zz q237)))
   go_meet
   case rel=>exact ⟨_,((((rd_L4 l2 0).length:Int) !=(l3.length:Int))),sd_,H',⟨by first|omega|exact Zv _⟩,⟨bl_⟩⟩
  ·rw [Yb c10] at H;exact Yf H (by simp)
 case rest=>
  clear HC5;obtain ⟨kq,x34_4,rfl,HA,HJ4,HB⟩:=hcut;rcases kq with _|kj4
  ·exact Yf HA.out (by simp [akz.j0])
  have H:=HA.out;clear HA;simp only [akz.j0] at H;by_cases c11:x34_4=true
  ·subst c11;rw [Ya rfl] at H;simp only [Zx,Zy] at H;obtain ⟨rfl,rfl⟩:=H;go_wp2;go_ret2;exact ⟨_,er_,nl_,bl_⟩
  ·replace c11:=Zr c11;subst c11;rw [Yb (show¬(false=true) by decide)] at H;have H':=Za H;clear H;go_wp2
   go_loopg [10,11] kj4 (fun kq v10 v11 w'=> ∃(x10_2:List (List Int)) (x11_2:Int),v11= .int .i64 x11_2/\Aside0 (akz.l0 kq a0 a1 l2 l3 x10_2 x11_2=some (r1,r2))/\Aside0 (kq<=kj4)/\Aside0 (Kd.S (Kd.slice 3 (Kd.int .i64)) 57 w' w.heap.size (fun _=>True) v10 x10_2)/\Aside0 (Below w.heap.size w w'))
   case atStart=>exact ⟨(([] :List (List Int))),(0),sd_,H',⟨Zv _⟩,⟨nl_⟩,⟨bl_⟩⟩
   clear H';obtain ⟨x10_2,x11_2,rfl,HA,HK2,HO_10,HB⟩:=hrel;rcases gk with _|k2
   ·exact Yf HA.out (by simp [akz.l0])
   have H:=HA.out;clear HA;simp only [akz.l0] at H;by_cases c12:x11_2<(l2.length:Int)
   rotate_left
   ·rw [Yb c12] at H;have c12b0:=Ze c12;clear c12;simp only [Zx,Zy] at H;obtain ⟨rfl,rfl⟩:=H;go_wp2;go_ret2;exact ⟨_,er_,xd_ HO_10.out,bl_⟩
   rw [Ya c12] at H;have c12b0:=Zd c12;clear c12;have H':=Za H;clear H;go_wp2
   go_loopg [12,13] k2 (fun kq v12 v13 w'=> ∃(x12_3:List Int) (x13_3:Int),v13= .int .i64 x13_3/\Aside0 (akz.l1 kq a0 a1 l2 l3 x10_2 x11_2 x12_3 x13_3=some (r1,r2))/\Aside0 (kq<=k2)/\Aside0 (Kd.S (Kd.slice 3 (Kd.int .i64)) 57 w' w.heap.size (fun k_=>some k_≠(v12:Value).ownBlock) u10 x10_2)/\Aside0 (Kd.R (Kd.int .i64) 3 w' w.heap.size (fun _=>True) v12 x12_3)/\Aside0 (Below w.heap.size w w'))
   case atStart=>exact ⟨(([] :List Int)),(0),sd_,H',⟨Zv _⟩,⟨sm_ HO_10⟩,⟨nl_⟩,⟨bl_⟩⟩
   clear H';clear c12b0;obtain ⟨x12_3,x13_3,rfl,HA,HK3,HO_10,HO_12,HB⟩:=hrel;rcases gk with _|k3
   ·exact Yf HA.out (by simp [akz.l1])
   have H:=HA.out;clear HA;simp only [akz.l1] at H;by_cases c13:0<(l3.length:Int)
   rotate_left
   ·rw [Yb c13] at H;exact Yf H (by simp)
   rw [Ya c13] at H;have c13b0:=Zd c13;have c13b1:decide (0<l3.length)=true:=Zd (by omega);clear c13;by_cases c14:x13_3<((rd_L4 l3 0).length:Int)
   rotate_left
   ·rw [Yb c14] at H;have c14b0:=Ze c14;clear c14;by_cases c25:x10_2.length<5864062014805
    rotate_left
    ·rw [Yb c25] at H;exact Yf H (by simp)
    rw [Ya c25] at H;have LMc25:=Za c25;clear c25;obtain ⟨y239,hy239⟩: ∃y_:List (List Int),y_=(x10_2++ [x12_3]):=⟨_,rfl⟩
    first|rw [Zl, <-hy239] at H|rw [<-hy239] at H
    (try dsimp only at H)
    have Ny239:=Za hy239;clear hy239;have H':=Za H;clear H;have p238:0<=(0:Int):=(by omega);have q238:0<(l3.length:Int):=Zc as_;obtain ⟨ad238,A238_0,c238_0,e238,hx238_0,hl238_0,hi238_0⟩:=at_L4 HR3.out 0 p238 q238;cases e238
    have qi238:(0<l3.length)=True:=Zz (by omega)
    (try rw [show ((0:Int)).toNat=0 from rfl] at hx238_0)
    (try rw [Addr.add_zero'] at hx238_0)
    replace hx238_0:=(HB.out.cell (Zj w _ hx238_0)).trans hx238_0;have HR238_0:=Za hi238_0;have HC238_0:=Za hl238_0;clear hi238_0 hl238_0;replace p238:=Zz p238;replace q238:=Zz q238;obtain ⟨Ao27,co27,eo27⟩:=Kd.aRz HO_12.out;subst eo27
    go_wp2_with (first|((with_reducible refine anz (b:= .append) (xs:= #[.tmp 78, .tmp 80]) rfl ?_);(try (refine aYz (by rfl) ?_;dsimp only));at_builtin;refine Kd.bLz (Kd.slice 3 (Kd.int .i64)) (w0:=w) w.heap.size rfl (.tmp 78) (.tmp 80) 68 57 (.slice none 0 0) 24 rfl Tryz.underlying68 info57 rfl (by decide) (by omega) u10 x10_2 x12_3 [.slice Ao27 x12_3.length co27] (fun _=>True) (fun k_=>some k_=(.slice Ao27 x12_3.length co27:Value).ownBlock) rfl rfl ?aP (fun k_ hk_=>((Kd.aJz (ok':=fun k_=>((fun _=>True)) k_/\some k_≠(u10:Value).ownBlock) (Kd.brz (HO_12.out) (Kd.bNz HO_10.out) (by decide)) (fun k_ hk=>⟨trivial,hk.2⟩))).1 k_ hk_.symm) ?aF ?aO ?aB ?aS ?aL ?_;(case aP=>exact Kd.M_row (Kd.aJz (Kd.ciz rfl (Kd.aJz (ok':=fun k_=>((fun _=>True)) k_/\some k_≠(u10:Value).ownBlock) (Kd.brz (HO_12.out) (Kd.bNz HO_10.out) (by decide)) (fun k_ hk=>⟨trivial,hk.2⟩))) (fun _ h_=>h_)));(case aB=>exact bl_);(case aF=>exact (fun _ _=>trivial));(case aO=>exact (sm_ HO_10));(case aS=>exact (aez bl_));(case aL=>have:=LMc25.out;omega);intro v240 w26 ho hb hg hat;rw [<-Ny239.out] at ho;have n_:=Zb (Za (hb)) (Za (ho));clear HB HO_10 HO_12;obtain ⟨HB,HO241⟩:=n_;clear ho hb hg hat))
    repeat (go_quiet (first|((with_reducible refine anz (b:= .append) (xs:= #[.tmp 78, .tmp 80]) rfl ?_);(try (refine aYz (by rfl) ?_;dsimp only));at_builtin;refine Kd.bLz (Kd.slice 3 (Kd.int .i64)) (w0:=w) w.heap.size rfl (.tmp 78) (.tmp 80) 68 57 (.slice none 0 0) 24 rfl Tryz.underlying68 info57 rfl (by decide) (by omega) u10 x10_2 x12_3 [.slice Ao27 x12_3.length co27] (fun _=>True) (fun k_=>some k_=(.slice Ao27 x12_3.length co27:Value).ownBlock) rfl rfl ?aP (fun k_ hk_=>((Kd.aJz (ok':=fun k_=>((fun _=>True)) k_/\some k_≠(u10:Value).ownBlock) (Kd.brz (HO_12.out) (Kd.bNz HO_10.out) (by decide)) (fun k_ hk=>⟨trivial,hk.2⟩))).1 k_ hk_.symm) ?aF ?aO ?aB ?aS ?aL ?_;(case aP=>exact Kd.M_row (Kd.aJz (Kd.ciz rfl (Kd.aJz (ok':=fun k_=>((fun _=>True)) k_/\some k_≠(u10:Value).ownBlock) (Kd.brz (HO_12.out) (Kd.bNz HO_10.out) (by decide)) (fun k_ hk=>⟨trivial,hk.2⟩))) (fun _ h_=>h_)));(case aB=>exact bl_);(case aF=>exact (fun _ _=>trivial));(case aO=>exact (sm_ HO_10));(case aS=>exact (aez bl_));(case aL=>have:=LMc25.out;omega);intro v240 w26 ho hb hg hat;rw [<-Ny239.out] at ho;have n_:=Zb (Za (hb)) (Za (ho));clear HB HO_10 HO_12;obtain ⟨HB,HO241⟩:=n_;clear ho hb hg hat));try go_wp2_with (first|((with_reducible refine anz (b:= .append) (xs:= #[.tmp 78, .tmp 80]) rfl ?_);(try (refine aYz (by rfl) ?_;dsimp only));at_builtin;refine Kd.bLz (Kd.slice 3 (Kd.int .i64)) (w0:=w) w.heap.size rfl (.tmp 78) (.tmp 80) 68 57 (.slice none 0 0) 24 rfl Tryz.underlying68 info57 rfl (by decide) (by omega) u10 x10_2 x12_3 [.slice Ao27 x12_3.length co27] (fun _=>True) (fun k_=>some k_=(.slice Ao27 x12_3.length co27:Value).ownBlock) rfl rfl ?aP (fun k_ hk_=>((Kd.aJz (ok':=fun k_=>((fun _=>True)) k_/\some k_≠(u10:Value).ownBlock) (Kd.brz (HO_12.out) (Kd.bNz HO_10.out) (by decide)) (fun k_ hk=>⟨trivial,hk.2⟩))).1 k_ hk_.symm) ?aF ?aO ?aB ?aS ?aL ?_;(case aP=>exact Kd.M_row (Kd.aJz (Kd.ciz rfl (Kd.aJz (ok':=fun k_=>((fun _=>True)) k_/\some k_≠(u10:Value).ownBlock) (Kd.brz (HO_12.out) (Kd.bNz HO_10.out) (by decide)) (fun k_ hk=>⟨trivial,hk.2⟩))) (fun _ h_=>h_)));(case aB=>exact bl_);(case aF=>exact (fun _ _=>trivial));(case aO=>exact (sm_ HO_10));(case aS=>exact (aez bl_));(case aL=>have:=LMc25.out;omega);intro v240 w26 ho hb hg hat;rw [<-Ny239.out] at ho;have n_:=Zb (Za (hb)) (Za (ho));clear HB HO_10 HO_12;obtain ⟨HB,HO241⟩:=n_;clear ho hb hg hat)))
    go_roundg k3
    case measure=>have:=HJ4.out;have:=HK2.out;have:=HK3.out;omega
    case rel=>exact ⟨(y239),(wrap64 (x11_2+1)),sd_,H',⟨by have:=HJ4.out;have:=HK2.out;have:=HK3.out;omega⟩,⟨xd_ HO241.out⟩,⟨bl_⟩⟩
   rw [Ya c14] at H;have c14b0:=Zd c14;clear c14;have H':=Za H;clear H;have p238:0<=(0:Int):=(by omega);have q238:0<(l3.length:Int):=Zc as_;obtain ⟨ad238,A238_0,c238_0,e238,hx238_0,hl238_0,hi238_0⟩:=at_L4 HR3.out 0 p238 q238;cases e238
   have qi238:(0<l3.length)=True:=Zz (by omega)
   (try rw [show ((0:Int)).toNat=0 from rfl] at hx238_0)
   (try rw [Addr.add_zero'] at hx238_0)
   replace hx238_0:=(HB.out.cell (Zj w _ hx238_0)).trans hx238_0;have HR238_0:=Za hi238_0;have HC238_0:=Za hl238_0;clear hi238_0 hl238_0;replace p238:=Zz p238;replace q238:=Zz q238;go_wp2
   go_loopg [14,15] k3 (fun kq v14 v15 w'=> ∃(x14_4:Int) (x15_4:Int),v14= .int .i64 x14_4/\v15= .int .i64 x15_4/\Aside0 (akz.l2 kq a0 a1 l2 l3 x10_2 x11_2 x12_3 x13_3 x14_4 x15_4=some (r1,r2))/\Aside0 (kq<=k3)/\Aside0 (Kd.S (Kd.slice 3 (Kd.int .i64)) 57 w' w.heap.size (fun k_=>some k_≠(u12:Value).ownBlock) u10 x10_2)/\Aside0 (Kd.R (Kd.int .i64) 3 w' w.heap.size (fun _=>True) u12 x12_3)/\Aside0 (Below w.heap.size w w'))
   case atStart=>exact ⟨(0),(0),sd_,sd_,H',⟨Zv _⟩,⟨xd_ HO_10.out⟩,⟨xd_ HO_12.out⟩,⟨bl_⟩⟩
   clear H';clear c13b0 c13b1 c14b0 hx238_0 p238 q238;obtain ⟨x14_4,x15_4,rfl,rfl,HA,HK4,HO_10,HO_12,HB⟩:=hrel;rcases gk with _|k4
   ·exact Yf HA.out (by simp [akz.l2])
   have H:=HA.out;clear HA;simp only [akz.l2] at H;by_cases c15:x15_4<(l3.length:Int)
   rotate_left
   ·rw [Yb c15] at H;have c15b0:=Ze c15;clear c15;by_cases c23:x12_3.length<17592186044416
    rotate_left
    ·rw [Yb c23] at H;exact Yf H (by simp)
    rw [Ya c23] at H;have LMc23:=Za c23;clear c23;obtain ⟨y247,hy247⟩: ∃y_:List Int,y_=(x12_3++ [x14_4]):=⟨_,rfl⟩
    first|rw [Zl, <-hy247] at H|rw [<-hy247] at H
    (try dsimp only at H)
    have Ny247:=Za hy247;clear hy247;have H':=Za H;clear H
    go_wp2_with (first|((with_reducible refine anz (b:= .append) (xs:= #[.tmp 74, .tmp 76]) rfl ?_);(try (refine aYz (by rfl) ?_;dsimp only));at_builtin;refine Kd.bxz (Kd.int .i64) (w0:=w) w.heap.size rfl (.tmp 74) (.tmp 76) 57 3 (.int .i64 0) 8 rfl Tryz.underlying57 info3 rfl (by decide) (by omega) u12 x12_3 x14_4 [.int .i64 x14_4] (fun _=>True) (fun _=>False) rfl rfl ?aP (fun _ hk=>hk.elim) ?aF ?aO ?aB ?aS ?aL ?_;(case aP=>exact rfl);(case aB=>exact bl_);(case aF=>exact (fun _ _=>trivial));(case aO=>exact (xd_ HO_12.out));(case aS=>exact (aez bl_));(case aL=>have:=LMc23.out;omega);intro v248 w24 ho hb hg hat;rw [<-Ny247.out] at ho;have n_:=Zb (Za (Kd.cYz (ok:=(fun _=>True)) (sm_ HO_10) hg hat)) (Zb (Za (hb)) (Za (ho)));clear HO_10 HB HO_12;obtain ⟨HO_10,HB,HO249⟩:=n_;clear ho hb hg hat))
    repeat (go_quiet (first|((with_reducible refine anz (b:= .append) (xs:= #[.tmp 74, .tmp 76]) rfl ?_);(try (refine aYz (by rfl) ?_;dsimp only));at_builtin;refine Kd.bxz (Kd.int .i64) (w0:=w) w.heap.size rfl (.tmp 74) (.tmp 76) 57 3 (.int .i64 0) 8 rfl Tryz.underlying57 info3 rfl (by decide) (by omega) u12 x12_3 x14_4 [.int .i64 x14_4] (fun _=>True) (fun _=>False) rfl rfl ?aP (fun _ hk=>hk.elim) ?aF ?aO ?aB ?aS ?aL ?_;(case aP=>exact rfl);(case aB=>exact bl_);(case aF=>exact (fun _ _=>trivial));(case aO=>exact (xd_ HO_12.out));(case aS=>exact (aez bl_));(case aL=>have:=LMc23.out;omega);intro v248 w24 ho hb hg hat;rw [<-Ny247.out] at ho;have n_:=Zb (Za (Kd.cYz (ok:=(fun _=>True)) (sm_ HO_10) hg hat)) (Zb (Za (hb)) (Za (ho)));clear HO_10 HB HO_12;obtain ⟨HO_10,HB,HO249⟩:=n_;clear ho hb hg hat));try go_wp2_with (first|((with_reducible refine anz (b:= .append) (xs:= #[.tmp 74, .tmp 76]) rfl ?_);(try (refine aYz (by rfl) ?_;dsimp only));at_builtin;refine Kd.bxz (Kd.int .i64) (w0:=w) w.heap.size rfl (.tmp 74) (.tmp 76) 57 3 (.int .i64 0) 8 rfl Tryz.underlying57 info3 rfl (by decide) (by omega) u12 x12_3 x14_4 [.int .i64 x14_4] (fun _=>True) (fun _=>False) rfl rfl ?aP (fun _ hk=>hk.elim) ?aF ?aO ?aB ?aS ?aL ?_;(case aP=>exact rfl);(case aB=>exact bl_);(case aF=>exact (fun _ _=>trivial));(case aO=>exact (xd_ HO_12.out));(case aS=>exact (aez bl_));(case aL=>have:=LMc23.out;omega);intro v248 w24 ho hb hg hat;rw [<-Ny247.out] at ho;have n_:=Zb (Za (Kd.cYz (ok:=(fun _=>True)) (sm_ HO_10) hg hat)) (Zb (Za (hb)) (Za (ho)));clear HO_10 HB HO_12;obtain ⟨HO_10,HB,HO249⟩:=n_;clear ho hb hg hat)))
    go_roundg k4
    case measure=>have:=HJ4.out;have:=HK2.out;have:=HK3.out;have:=HK4.out;omega
    case rel=>exact ⟨(y247),(wrap64 (x13_3+1)),sd_,H',⟨by have:=HJ4.out;have:=HK2.out;have:=HK3.out;have:=HK4.out;omega⟩,⟨sm_ HO_10⟩,⟨xd_ HO249.out⟩,⟨bl_⟩⟩
   rw [Ya c15] at H;have c15b0:=Zd c15;clear c15;by_cases c16:0<=x11_2
   rotate_left
   ·rw [Yb c16] at H;exact Yf H (by simp)
   rw [Ya c16] at H;have c16b0:=Zd c16;clear c16;by_cases c17:x11_2<(l2.length:Int)
   rotate_left
   ·rw [Yb c17] at H;exact Yf H (by simp)
   rw [Ya c17] at H;have c17b0:=Zd c17;clear c17;by_cases c18:0<=x15_4
   rotate_left
   ·rw [Yb c18] at H;exact Yf H (by simp)
   rw [Ya c18] at H;have c18b0:=Zd c18;clear c18;by_cases c19:x15_4<((rd_L4 l2 x11_2).length:Int)
   rotate_left
   ·rw [Yb c19] at H;exact Yf H (by simp)
   rw [Ya c19] at H;have c19b0:=Zd c19;clear c19;by_cases c20:0<=x13_3
   rotate_left
   ·rw [Yb c20] at H;exact Yf H (by simp)
   rw [Ya c20] at H;have c20b0:=Zd c20;clear c20;by_cases c21:x13_3<((rd_L4 l3 x15_4).length:Int)
   rotate_left
   ·rw [Yb c21] at H;exact Yf H (by simp)
   rw [Ya c21] at H;have c21b0:=Zd c21;clear c21;obtain ⟨t246,A22,H⟩:=ob_ H
   (try dsimp only at H)
   have H':=Za H;clear H;have p242:0<=(x11_2:Int):=Zc as_;have q242:x11_2<(l2.length:Int):=Zc as_;obtain ⟨_,A242_0,c242_0,e242,hx242_0,hl242_0,hi242_0⟩:=at_L4 HR2.out x11_2 p242 q242;cases e242
   replace hx242_0:=(HB.out.cell (Zj w _ hx242_0)).trans hx242_0;have HR242_0:=Za hi242_0;have HC242_0:=Za hl242_0;clear hi242_0 hl242_0;replace p242:=Zz p242;replace q242:=Zz q242;have p243:0<=(x15_4:Int):=Zc as_;have q243:x15_4<((rd_L4 l2 x11_2).length:Int):=Zc as_;obtain ⟨_,e243,hx243_0⟩:=Kd.bAz HR242_0.out x15_4 p243 q243;cases e243
   replace hx243_0:=(HB.out.cell (Zj w _ hx243_0)).trans hx243_0;replace p243:=Zz p243;replace q243:=Zz q243;have p244:0<=(x15_4:Int):=Zc as_;have q244:x15_4<(l3.length:Int):=Zc as_;obtain ⟨ad244,A244_0,c244_0,e244,hx244_0,hl244_0,hi244_0⟩:=at_L4 HR3.out x15_4 p244 q244;obtain rfl:ad238=ad244:=(by injection e244);replace hx244_0:=(HB.out.cell (Zj w _ hx244_0)).trans hx244_0;have HR244_0:=Za hi244_0;have HC244_0:=Za hl244_0;clear hi244_0 hl244_0;replace p244:=Zz p244;replace q244:=Zz q244;have p245:0<=(x13_3:Int):=Zc as_;have q245:x13_3<((rd_L4 l3 x15_4).length:Int):=Zc as_;obtain ⟨_,e245,hx245_0⟩:=Kd.bAz HR244_0.out x13_3 p245 q245;cases e245
   replace hx245_0:=(HB.out.cell (Zj w _ hx245_0)).trans hx245_0;replace p245:=Zz p245;replace q245:=Zz q245
   go_wp2_with (first|(go_at_call 107;(with_reducible refine (axz.calls k4 a0 a1 (rd (rd_L4 l2 x11_2) x15_4) (rd (rd_L4 l3 x15_4) x13_3) t246 _ A22.out).mono ?_);rintro e w' ⟨rfl,⟨nd,rfl⟩⟩;(try first|exact ⟨rfl,_,World.drewN_drewN _ _ _⟩|exact ⟨rfl,_,Eq.trans (World.drewN_drewN _ _ _) (congrArg (World.drewN _) (Nat.add_assoc _ _ _))⟩)))
   repeat (go_quiet (first|(go_at_call 107;(with_reducible refine (axz.calls k4 a0 a1 (rd (rd_L4 l2 x11_2) x15_4) (rd (rd_L4 l3 x15_4) x13_3) t246 _ A22.out).mono ?_);rintro e w' ⟨rfl,⟨nd,rfl⟩⟩;(try first|exact ⟨rfl,_,World.drewN_drewN _ _ _⟩|exact ⟨rfl,_,Eq.trans (World.drewN_drewN _ _ _) (congrArg (World.drewN _) (Nat.add_assoc _ _ _))⟩)));try go_wp2_with (first|(go_at_call 107;(with_reducible refine (axz.calls k4 a0 a1 (rd (rd_L4 l2 x11_2) x15_4) (rd (rd_L4 l3 x15_4) x13_3) t246 _ A22.out).mono ?_);rintro e w' ⟨rfl,⟨nd,rfl⟩⟩;(try first|exact ⟨rfl,_,World.drewN_drewN _ _ _⟩|exact ⟨rfl,_,Eq.trans (World.drewN_drewN _ _ _) (congrArg (World.drewN _) (Nat.add_assoc _ _ _))⟩))))
   go_roundg k4
   case measure=>have:=HJ4.out;have:=HK2.out;have:=HK3.out;have:=HK4.out;omega
   case rel=>exact ⟨(Go.bits .xor .i64 x14_4 t246),(wrap64 (x15_4+1)),sd_,sd_,H',⟨by have:=HJ4.out;have:=HK2.out;have:=HK3.out;have:=HK4.out;omega⟩,⟨xd_ HO_10.out⟩,⟨xd_ HO_12.out⟩,⟨bl_⟩⟩
def arz.l0:Nat->Int->Int->List (List Int)->List Int->Int->Option ((List (List Int))×Bool)
 |0,_,_,_,_,_=>none
 |k+1,x2,x3,x10,x12,x13=>if x13<x2 then (if x13=(wrap64 (x2 - 1)) then (if x12.length<17592186044416 then (arz.l0 k x2 x3 x10 (x12++ [1]) (wrap64 (x13+1))) else (none)) else (if x12.length<17592186044416 then (arz.l0 k x2 x3 x10 (x12++ [0]) (wrap64 (x13+1))) else (none))) else (if 0<=(wrap64 ((wrap64 (x2+x3)) - 1)) then (if (wrap64 ((wrap64 (x2+x3)) - 1))<(x10.length:Int) then (some ((x10.set ((wrap64 ((wrap64 (x2+x3)) - 1)):Int).toNat x12),true)) else (none)) else (none))
def arz.f (k:Nat) (a0:Int) (a1:Int) (a2:Int) (a3:Int):Option ((List (List Int))×Bool):=(bgz.f a2 a3).bind fun t223=>(if t223=true then ((aoz.f k a0 a1 (wrap64 (a2+a3)) a2).bind fun bt224=>(arz.l0 k a2 a3 bt224.1 ([] :List Int) 0)) else (some (([] :List (List Int)),false)))
theorem arz.aVz: ∀k,(∀y0 y1 y2 y3 y4,LeO (arz.l0 k y0 y1 y2 y3 y4) (arz.l0 (k+1) y0 y1 y2 y3 y4))
 |0=>fun _ _ _ _ _ r h=>by simp [arz.l0] at h
 |k+1=>by
  have ih0:=arz.aVz k
  ·intro y0 y1 y2 y3 y4;unfold arz.l0
   repeat' with_reducible first|apply ih0|apply aoz.mono|apply Yg|apply Yh|apply Yi|refine Yj ?_ fun _=>?_
theorem arz.mono: ∀a0 a1 a2 a3 k,LeO (arz.f k a0 a1 a2 a3) (arz.f (k+1) a0 a1 a2 a3):=by
 intro a0 a1 a2 a3 k;have ih0:=arz.aVz k;unfold arz.f
 repeat' with_reducible first|apply ih0|apply aoz.mono|apply Yg|apply Yh|apply Yi|refine Yj ?_ fun _=>?_
theorem arz.calls (k : Nat) (a0 : Int) (a1 : Int) (a2 : Int) (a3 : Int) (r1 : List (List Int)) (r2 : Bool) (w : World) (h : arz.f k a0 a1 a2 a3 = some (r1, r2)) :
  Calls Tryz.prog 126 #[.int .i64 a0, .int .u32 a1, .int .i64 a2, .int .i64 a3] w fun e w'=> ∃v0_:Value,e= .returned (.tuple #[v0_, .bool r2])/\Kd.S (Kd.slice 3 (Kd.int .i64)) 57 w' w.heap.size (fun _=>True) v0_ r1/\Below w.heap.size w w':=by
 have HB:=Za (Zw w.heap.size w);have H:=h;clear h;unfold arz.f at H;obtain ⟨t223,A5,H⟩:=ob_ H
 (try dsimp only at H)
 by_cases c6:t223=true
 rotate_left
 ·replace c6:=Zr c6;subst c6;rw [Yb (show¬(false=true) by decide)] at H;simp only [Zx,Zy] at H;obtain ⟨rfl,rfl⟩:=H;go_enter Tryz.func126,Tryz.ntmps126
  go_wp2_with (first|((with_reducible refine abz (f:=129) rfl ?_);refine gl_ (some 17) Tryz.func129 #[.int .i64 a2, .int .i64 a3] ?_;(with_reducible refine (bgz.calls a2 a3 false _ A5.out).mono ?_);rintro e w' ⟨rfl,⟨nd,rfl⟩⟩;refine ⟨_,rfl,?_⟩))
  go_ret2;exact ⟨_,er_,nl_,bl_⟩
 subst c6;rw [Ya rfl] at H;obtain ⟨⟨t224,t225⟩,A7,H⟩:=ob_ H
 (try dsimp only at H)
 have H':=Za H;clear H;go_enter Tryz.func126,Tryz.ntmps126
 go_wp2_with (first|((with_reducible refine abz (f:=129) rfl ?_);refine gl_ (some 17) Tryz.func129 #[.int .i64 a2, .int .i64 a3] ?_;(with_reducible refine (bgz.calls a2 a3 true _ A5.out).mono ?_);rintro e w' ⟨rfl,⟨nd,rfl⟩⟩;refine ⟨_,rfl,?_⟩)|((with_reducible refine abz (f:=133) rfl ?_);refine gl_ (some 26) Tryz.func133 #[.int .i64 a0, .int .u32 a1, .int .i64 (wrap64 (a2+a3)), .int .i64 a2] ?_;(with_reducible refine (aoz.calls k a0 a1 (wrap64 (a2+a3)) a2 t224 t225 _ A7.out).mono ?_);rintro e w8 ⟨v226,rfl,ho0,hb⟩;refine ⟨_,rfl,?_⟩;have n_:=Zb (Za (Kd.cJz ho0 (aez bl_))) (hs_ HB hb);clear HB;obtain ⟨HO227,HB⟩:=n_;clear hb ho0))
 go_loopg [12,13] k (fun kq v12 v13 w'=> ∃(x12_1:List Int) (x13_1:Int),v13= .int .i64 x13_1/\Aside0 (arz.l0 kq a2 a3 t224 x12_1 x13_1=some (r1,r2))/\Aside0 (kq<=k)/\Aside0 (Kd.S (Kd.slice 3 (Kd.int .i64)) 57 w' w.heap.size (fun k_=>some k_≠(v12:Value).ownBlock) v226 t224)/\Aside0 (Kd.R (Kd.int .i64) 3 w' w.heap.size (fun _=>True) v12 x12_1)/\Aside0 (Below w.heap.size w w'))
 case atStart=>exact ⟨(([] :List Int)),(0),sd_,H',⟨Zv _⟩,⟨sm_ HO227⟩,⟨nl_⟩,⟨bl_⟩⟩
 clear H';obtain ⟨x12_1,x13_1,rfl,HA,HK1,HO_10,HO_12,HB⟩:=hrel;rcases gk with _|k1
 ·exact Yf HA.out (by simp [arz.l0])
 have H:=HA.out;clear HA;simp only [arz.l0] at H;by_cases c9:x13_1<a2
 ·rw [Ya c9] at H;have c9b0:=Zd c9;clear c9;by_cases c10:x13_1=(wrap64 (a2 - 1))
  rotate_left
  ·rw [Yb c10] at H;have c10b0:(x13_1==(wrap64 (a2 - 1)))=false:=Zq c10;have c10b1:(x13_1 !=(wrap64 (a2 - 1)))=true:=Yd c10;by_cases c13:x12_1.length<17592186044416
   rotate_left
   ·rw [Yb c13] at H;exact Yf H (by simp)
   rw [Ya c13] at H;have LMc13:=Za c13;clear c13;obtain ⟨y231,hy231⟩: ∃y_:List Int,y_=(x12_1++ [0]):=⟨_,rfl⟩
   first|rw [Zl, <-hy231] at H|rw [<-hy231] at H
   (try dsimp only at H)
   have Ny231:=Za hy231;clear hy231;have H':=Za H;clear H
   go_wp2_with (first|((with_reducible refine anz (b:= .append) (xs:= #[.tmp 38, .tmp 40]) rfl ?_);at_builtin;refine Kd.bxz (Kd.int .i64) (w0:=w) w.heap.size rfl (.tmp 38) (.tmp 40) 57 3 (.int .i64 0) 8 rfl Tryz.underlying57 info3 rfl (by decide) (by omega) u12 x12_1 0 [.int .i64 0] (fun _=>True) (fun _=>False) rfl rfl ?aP (fun _ hk=>hk.elim) ?aF ?aO ?aB ?aS ?aL ?_;(case aP=>exact rfl);(case aB=>exact bl_);(case aF=>exact (fun _ _=>trivial));(case aO=>exact (xd_ HO_12.out));(case aS=>exact (aez bl_));(case aL=>have:=LMc13.out;omega);intro v232 w14 ho hb hg hat;rw [<-Ny231.out] at ho;have n_:=Zb (Za (Kd.cYz (ok:=(fun _=>True)) (sm_ HO_10) hg hat)) (Zb (Za (hb)) (Za (ho)));clear HO_10 HB HO_12;obtain ⟨HO_10,HB,HO233⟩:=n_;clear ho hb hg hat))
   go_roundg k1
   case measure=>have:=HK1.out;omega
   case rel=>exact ⟨(y231),(wrap64 (x13_1+1)),sd_,H',⟨by have:=HK1.out;omega⟩,⟨sm_ HO_10⟩,⟨xd_ HO233.out⟩,⟨bl_⟩⟩
  rw [Ya c10] at H;have c10b0:(x13_1==(wrap64 (a2 - 1)))=true:=Ye c10;have c10b1:(x13_1 !=(wrap64 (a2 - 1)))=false:=Yc c10;clear c10;by_cases c11:x12_1.length<17592186044416
  rotate_left
  ·rw [Yb c11] at H;exact Yf H (by simp)
  rw [Ya c11] at H;have LMc11:=Za c11;clear c11;obtain ⟨y228,hy228⟩: ∃y_:List Int,y_=(x12_1++ [1]):=⟨_,rfl⟩
  first|rw [Zl, <-hy228] at H|rw [<-hy228] at H
  (try dsimp only at H)
  have Ny228:=Za hy228;clear hy228;have H':=Za H;clear H
  go_wp2_with (first|((with_reducible refine anz (b:= .append) (xs:= #[.tmp 38, .tmp 40]) rfl ?_);at_builtin;refine Kd.bxz (Kd.int .i64) (w0:=w) w.heap.size rfl (.tmp 38) (.tmp 40) 57 3 (.int .i64 0) 8 rfl Tryz.underlying57 info3 rfl (by decide) (by omega) u12 x12_1 1 [.int .i64 1] (fun _=>True) (fun _=>False) rfl rfl ?aP (fun _ hk=>hk.elim) ?aF ?aO ?aB ?aS ?aL ?_;(case aP=>exact rfl);(case aB=>exact bl_);(case aF=>exact (fun _ _=>trivial));(case aO=>exact (xd_ HO_12.out));(case aS=>exact (aez bl_));(case aL=>have:=LMc11.out;omega);intro v229 w12 ho hb hg hat;rw [<-Ny228.out] at ho;have n_:=Zb (Za (Kd.cYz (ok:=(fun _=>True)) (sm_ HO_10) hg hat)) (Zb (Za (hb)) (Za (ho)));clear HO_10 HB HO_12;obtain ⟨HO_10,HB,HO230⟩:=n_;clear ho hb hg hat))
  go_roundg k1
  case measure=>have:=HK1.out;omega
  case rel=>exact ⟨(y228),(wrap64 (x13_1+1)),sd_,H',⟨by have:=HK1.out;omega⟩,⟨sm_ HO_10⟩,⟨xd_ HO230.out⟩,⟨bl_⟩⟩
 ·rw [Yb c9] at H;have c9b0:=Ze c9;clear c9;obtain ⟨ji15,hji15⟩: ∃j_:Int,(wrap64 ((wrap64 (a2+a3)) - 1))=j_:=⟨_,rfl⟩
  replace H:(if 0<=(ji15) then (if (ji15)<(t224.length:Int) then (some ((t224.set ((ji15):Int).toNat x12_1),true)) else (none)) else (none))=some (r1,r2):=by first|(rw [hji15] at H;exact H)|(simp only [hji15] at H|-;exact H)
  have hji15w:(IntKind.i64.wrap ((wrap64 (a2+a3)) - 1))=ji15:=(i64_w _).trans hji15;by_cases c16:0<=(ji15)
  rotate_left
  ·rw [Yb c16] at H;exact Yf H (by simp)
  rw [Ya c16] at H;have c16b0:=Zd c16;clear c16;by_cases c17:(ji15)<(t224.length:Int)
  rotate_left
  ·rw [Yb c17] at H;exact Yf H (by simp)
  rw [Ya c17] at H;have c17b0:=Zd c17;clear c17;obtain ⟨y234,hy234⟩: ∃y_:List (List Int),y_=(t224.set ((ji15):Int).toNat x12_1):=⟨_,rfl⟩
  first|rw [Zl, <-hy234] at H|rw [<-hy234] at H
  (try dsimp only at H)
  have Ny234:=Za hy234;clear hy234;simp only [Zx,Zy] at H;obtain ⟨rfl,rfl⟩:=H;have p18:0<=((ji15):Int):=Zc as_;have q18:((ji15):Int)<((t224.length:Int):Int):=Zc as_;obtain ⟨go18,co18,eo18,gb18,gl18,cl18,HG18⟩:=Kd.S_form HO_10.out (by omega)
  (first|cases eo18|(injection eo18 with ea_ en_ ec_;(first|subst ea_|(injection ea_ with ea_;subst ea_));subst ec_;clear en_))
  have GB18:=Za gb18;have GG18:=Za HG18;clear gb18 gl18 HG18;obtain ⟨_,ce18,hcl18,hM18,hcc18,hfr18,_,_⟩:=Kd.S_elem HO_10.out [] ((ji15):Int) p18 q18;obtain ⟨ve18_0,rfl,ge18_0⟩:=hM18;have hx18_0:=hcc18 0 _ rfl;have hf18_0:=hfr18 0
  (try simp only [show ((Kd.slice 3 (Kd.int .i64))).sz=1 from rfl,Nat.mul_one,Nat.add_zero] at hx18_0)
  (try simp only [show ((Kd.slice 3 (Kd.int .i64))).sz=1 from rfl,Nat.mul_one,Nat.add_zero] at hf18_0)
  clear hcl18 hcc18 hfr18;replace p18:=Zz p18;replace q18:=Zz q18;have HX19:=Za (show Kd.S (Kd.slice 3 (Kd.int .i64)) 57 wr w.heap.size (fun k_=>((fun _=>True)) k_/\ ¬((fun k_=>some k_=(u12:Value).ownBlock)) k_) (.slice (some ⟨go18,0,none⟩) t224.length co18) t224 from (sm_ HO_10));obtain ⟨oki19,ce19,hcl19,hM19,hcc19,hfr19,hoki19,hH19⟩:=Kd.S_elem HX19.out [] ((ji15):Int) (Zc as_) (by have h_:((ji15):Int)<((t224.length:Int):Int):=Zc as_;first|exact h_|(have e_:=(Kd.S_reads' HO_10.out).1;omega)|simpa using h_);obtain ⟨ve19_0,rfl,ge19_0⟩:=hM19;have HP19:=Kd.S_seg hH19 (Zc as_) (by have h_:((ji15):Int)<((t224.length:Int):Int):=Zc as_;first|exact h_|(have e_:=(Kd.S_reads' HO_10.out).1;omega)|simpa using h_) (seg:= [u12]) (j:=0) (show 1<=1 from by decide) (x':=x12_1) (Kd.M_row (Kd.aJz (Kd.ciz rfl (Kd.aJz (ok':=fun k_=>((fun _=>True)) k_/\k_≠go18) (Kd.brz (HO_12.out) (Kd.bNz HO_10.out) (by decide)) (fun k_ hk=>⟨trivial,fun e_=>(hk.2) (by rw [e_];rfl)⟩))) (fun _ h_=>Or.inr (h_)))) (fun _ hk=>hk) (fun k_ hk_=>((Kd.aJz (ok':=fun k_=>((fun _=>True)) k_/\k_≠go18) (Kd.brz (HO_12.out) (Kd.bNz HO_10.out) (by decide)) (fun k_ hk=>⟨trivial,fun e_=>(hk.2) (by rw [e_];rfl)⟩))).1 k_ hk_.symm)
  have hx19_0:=hcc19 0 _ rfl
  (try simp only [show ((Kd.slice 3 (Kd.int .i64))).sz=1 from rfl,Nat.mul_one,Nat.add_zero] at hx19_0)
  have hf19_0:=hfr19 0
  (try simp only [show ((Kd.slice 3 (Kd.int .i64))).sz=1 from rfl,Nat.mul_one,Nat.add_zero] at hf19_0)
  clear hcl19 hcc19 hfr19  hoki19 hH19
  (try simp only [show ((Kd.slice 3 (Kd.int .i64))).sz=1 from rfl,Nat.mul_one,Nat.add_zero] at HP19)
  obtain ⟨sa12_,sc12_,hu12_⟩:=Kd.aRz HO_12.out
  go_wp2_with (first|((with_reducible refine c9z (t:=57) (p:=48) rfl ?_);refine dnz (t:=57) (p:=48) (v:= ?vo_w20) (w1:=(wr.setCell ⟨go18,((ji15):Int).toNat,none⟩ (u12))) ?hg ?ho ?hn ?hr ?_;(case ho=>rfl);(case hg=>rfl);(case hn=>rfl);(case hr=>first|(go_simp;done)|(go_simp;rfl));intro w20 hw;have hg:wr.grownBy w20 (some go18):=(by rw [hw];exact HP19.2);have hp_:Kd.S (Kd.slice 3 (Kd.int .i64)) 57 w20 w.heap.size (fun _=>True) (.slice (some ⟨go18,0,none⟩) t224.length co18) y234:=(by rw [hw,Ny234.out];exact HP19.1);clear HP19;have n_:=Zb (Za (hp_)) (Za ((by rw [hw];exact dfz (HB.out) GB18.out:Below w.heap.size w w20)));clear HO_10 HB HO_12;obtain ⟨HO_10,HB⟩:=n_;clear hg hw hp_))
  go_ret2;exact ⟨_,by first|rfl|(simp [cMz,cNz] <;>rfl)|(simp only [<-hji15];first|rfl|(simp [cMz,cNz] <;>rfl))|(simp [*,cMz,cNz] <;>rfl),xd_ HO_10.out,bl_⟩
def bXz.f (k:Nat) (a0:Int) (a1:Int) (a2:Int) (a3:Int):Option (Int×Bool):=(aqz.f k a0 a1 a3).bind fun bt250=>(if bt250.2=true then ((afz.f k a0 a2).bind fun t252=>(if t252=true then ((axz.f k a0 a1 a2 bt250.1).bind fun t253=>(some (t253,true))) else (some (0,false)))) else (some (0,false)))
theorem bXz.mono: ∀a0 a1 a2 a3 k,LeO (bXz.f k a0 a1 a2 a3) (bXz.f (k+1) a0 a1 a2 a3):=by
 intro a0 a1 a2 a3 k;unfold bXz.f
 repeat' with_reducible first|apply afz.mono|apply aqz.mono|apply axz.mono|apply Yg|apply Yh|apply Yi|refine Yj ?_ fun _=>?_
theorem bXz.calls (k : Nat) (a0 : Int) (a1 : Int) (a2 : Int) (a3 : Int) (r1 : Int) (r2 : Bool) (w : World) (h : bXz.f k a0 a1 a2 a3 = some (r1, r2)) :
  Calls Tryz.prog 167 #[.int .i64 a0, .int .u32 a1, .int .i64 a2, .int .i64 a3] w fun e w'=>e= .returned (.tuple #[.int .i64 r1, .bool r2])/\Drawn0 w w':=by
 have H:=h;clear h;unfold bXz.f at H;obtain ⟨⟨t250,t251⟩,A5,H⟩:=ob_ H
 (try dsimp only at H)
 by_cases c6:t251=true
 rotate_left
 ·replace c6:=Zr c6;subst c6;rw [Yb (show¬(false=true) by decide)] at H;simp only [Zx,Zy] at H;obtain ⟨rfl,rfl⟩:=H;go_enter Tryz.func167,Tryz.ntmps167
  go_wp2_with (first|((with_reducible refine abz (f:=146) rfl ?_);refine gl_ (some 16) Tryz.func146 #[.int .i64 a0, .int .u32 a1, .int .i64 a3] ?_;(with_reducible refine (aqz.calls k a0 a1 a3 t250 false _ A5.out).mono ?_);rintro e w' ⟨rfl,⟨nd,rfl⟩⟩;refine ⟨_,rfl,?_⟩))
  go_ret2;exact ⟨sd_,dn_⟩
 subst c6;rw [Ya rfl] at H;obtain ⟨t252,A7,H⟩:=ob_ H
 (try dsimp only at H)
 by_cases c8:t252=true
 ·subst c8;rw [Ya rfl] at H;obtain ⟨t253,A9,H⟩:=ob_ H
  (try dsimp only at H)
  simp only [Zx,Zy] at H;obtain ⟨rfl,rfl⟩:=H;go_enter Tryz.func167,Tryz.ntmps167
  go_wp2_with (first|((with_reducible refine abz (f:=146) rfl ?_);refine gl_ (some 16) Tryz.func146 #[.int .i64 a0, .int .u32 a1, .int .i64 a3] ?_;(with_reducible refine (aqz.calls k a0 a1 a3 t250 true _ A5.out).mono ?_);rintro e w' ⟨rfl,⟨nd,rfl⟩⟩;refine ⟨_,rfl,?_⟩)|(go_at_call 106;(with_reducible refine (afz.calls k a0 a2 true _ A7.out).mono ?_);rintro e w' ⟨rfl,⟨nd,rfl⟩⟩)|((with_reducible refine abz (f:=107) rfl ?_);refine gl_ (some 31) Tryz.func107 #[.int .i64 a0, .int .u32 a1, .int .i64 a2, .int .i64 t250] ?_;(with_reducible refine (axz.calls k a0 a1 a2 t250 t253 _ A9.out).mono ?_);rintro e w' ⟨rfl,⟨nd,rfl⟩⟩;refine ⟨_,rfl,?_⟩))
  go_ret2;exact ⟨sd_,dn_⟩
 ·replace c8:=Zr c8;subst c8;rw [Yb (show¬(false=true) by decide)] at H;simp only [Zx,Zy] at H;obtain ⟨rfl,rfl⟩:=H;go_enter Tryz.func167,Tryz.ntmps167
  go_wp2_with (first|((with_reducible refine abz (f:=146) rfl ?_);refine gl_ (some 16) Tryz.func146 #[.int .i64 a0, .int .u32 a1, .int .i64 a3] ?_;(with_reducible refine (aqz.calls k a0 a1 a3 t250 true _ A5.out).mono ?_);rintro e w' ⟨rfl,⟨nd,rfl⟩⟩;refine ⟨_,rfl,?_⟩)|(go_at_call 106;(with_reducible refine (afz.calls k a0 a2 false _ A7.out).mono ?_);rintro e w' ⟨rfl,⟨nd,rfl⟩⟩))
  go_ret2;exact ⟨sd_,dn_⟩
def bez.f (k:Nat) (a0:Int) (a1:Int) (a2:Int) (a3:Int):Option (Int):=(bXz.f k a0 a1 a2 a3).bind fun bt254=>(some bt254.1)
theorem bez.mono: ∀a0 a1 a2 a3 k,LeO (bez.f k a0 a1 a2 a3) (bez.f (k+1) a0 a1 a2 a3):=by
 intro a0 a1 a2 a3 k;unfold bez.f
 repeat' with_reducible first|apply bXz.mono|apply Yg|apply Yh|apply Yi|refine Yj ?_ fun _=>?_
theorem bez.calls (k : Nat) (a0 : Int) (a1 : Int) (a2 : Int) (a3 : Int) (r : Int) (w : World) (h : bez.f k a0 a1 a2 a3 = some r) :
  Calls Tryz.prog 128 #[.int .i64 a0, .int .u32 a1, .int .i64 a2, .int .i64 a3] w fun e w'=>e= .returned (.int .i64 r)/\Drawn0 w w':=by
 have H:=h;clear h;unfold bez.f at H;obtain ⟨⟨t254,t255⟩,A5,H⟩:=ob_ H
 (try dsimp only at H)
 obtain rfl:=Zn H;go_enter Tryz.func128,Tryz.ntmps128
 go_wp2_with (first|((with_reducible refine abz (f:=167) rfl ?_);refine gl_ (some 16) Tryz.func167 #[.int .i64 a0, .int .u32 a1, .int .i64 a2, .int .i64 a3] ?_;(with_reducible refine (bXz.calls k a0 a1 a2 a3 t254 t255 _ A5.out).mono ?_);rintro e w' ⟨rfl,⟨nd,rfl⟩⟩;refine ⟨_,rfl,?_⟩))
 go_ret;exact ⟨sd_,dn_⟩
end Go.Proofs.Xc
end
