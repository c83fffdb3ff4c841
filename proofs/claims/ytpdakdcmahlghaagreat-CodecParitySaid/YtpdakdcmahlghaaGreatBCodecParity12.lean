-- Joined texts of this work (wip/tools/bundle.py).
import Derived.Test.YtpdakdcmahlghaaGreatBCodecParity11
set_option maxHeartbeats 8000000
set_option maxRecDepth 100000
set_option linter.unusedVariables false
set_option linter.unusedSimpArgs false
section
namespace Go.Proofs.Xc
open Go.RowKit Go.Proofs.Pw Go.Proofs.Pl Go.Proofs.Pm
attribute [local go_sem] a9z baz bkz blz a2z a3z bbz bcz
mutual
def amz.j0:Nat->Int->Int->List Int->List (List Int)->Bool->Option (List Int×Bool)
 |0,_,_,_,_,_=>none
 |k+1,x0,x1,x2,x3,x25=>if x25=true then (some (([] :List Int),false)) else (amz.l0 k x0 x1 x2 x3 ([] :List Int) 0)
def amz.l0:Nat->Int->Int->List Int->List (List Int)->List Int->Int->Option (List Int×Bool)
 |0,_,_,_,_,_,_=>none
 |k+1,x0,x1,x2,x3,x10,x11=>if x11<(x2.length:Int) then (if 0<=x11 then (if x11<(x3.length:Int) then ((a1z.f k x0 x1 (rd x2 x11) (rd_L1 x3 x11)).bind fun bt742=>(if bt742.2=true then (if 0<(x3.length:Int) then (amz.j2 k x0 x1 x2 x3 x10 x11 bt742.1 (((rd_L1 x3 x11).length:Int) !=((rd_L1 x3 0).length:Int))) else (none)) else (amz.j2 k x0 x1 x2 x3 x10 x11 bt742.1 true))) else (none)) else (none)) else (some (x10,true))
def amz.j2:Nat->Int->Int->List Int->List (List Int)->List Int->Int->List Int->Bool->Option (List Int×Bool)
 |0,_,_,_,_,_,_,_,_=>none
 |k+1,x0,x1,x2,x3,x10,x11,x12,x59=>if x59=true then (some (([] :List Int),false)) else (if x11=0 then (amz.l0 k x0 x1 x2 x3 x12 (wrap64 (x11+1))) else ((aSz.f k x10 x12).bind fun bt748=>(amz.l0 k x0 x1 x2 x3 bt748.1 (wrap64 (x11+1)))))
end
def amz.f (k:Nat) (a0:Int) (a1:Int) (l2:List Int) (l3:List (List Int)):Option (List Int×Bool):=if (l2.length:Int)=(l3.length:Int) then (amz.j0 k a0 a1 l2 l3 ((l2.length:Int)==0)) else (amz.j0 k a0 a1 l2 l3 true)
def amz.T7:Bool×List (List Nat×List Nat):=(true, [([], []),([], []),([], []),([], []),([2,3], [2,3]),([4], [4]),([], []),([], []),([6,7], [6,7]),([8], [8]),([0,1,5,9], [0,1,5,9]),([10], [10]),([11], [11]),([11], [11]),([12,10,0,1,2,3,4,5,6,7,8,9,10,11,12], [12]),([13,14,0,1,2,3,4,5,6,7,8,9,10,11,12,13,14], [13])])
def amz.B7:List Nat:= [0,0,0,0,12,28,0,0,192,448,1023,2047,4095,4095,8191,32767]
theorem amz.tab7:rtab .any (opsOf Tryz.f52 7)=amz.T7:=by kernel_rfl
theorem amz.bits7:waitsOk amz.T7.2 amz.B7=true:=by kernel_rfl
def amz.T8:Bool×List (List Nat×List Nat):=(true, [([], []),([0], [0]),([1], [1]),([2], [2]),([2], [2]),([3,4,2], [2,3,4]),([5,2], [2,5]),([6,2], [2,6]),([2], [2]),([8,2], [2,8]),([9,2], [2,9]),([10,2], [2,10]),([7,11,2], [2,7,11]),([2,12], [2,12])])
def amz.B8:List Nat:= [0,1,3,7,7,31,63,127,7,263,775,1799,4095,8191]
theorem amz.tab8:rtab .any (opsOf Tryz.f52 8)=amz.T8:=by kernel_rfl
theorem amz.bits8:waitsOk amz.T8.2 amz.B8=true:=by kernel_rfl
theorem amz.calls (k : Nat) (a0 : Int) (a1 : Int) (A2 : Option Addr) (c2 : Nat) (l2 : List Int) (A3 : Option Addr) (c3 : Nat) (l3 : List (List Int)) (r1 : List Int) (r2 : Bool) (w : World) (hr2 : Kd.C (Kd.int .i64) w A2 l2.length l2) (hc2 : l2.length <= c2) (hr3 : Kd.C (Kd.slice 5 (Kd.int .u8)) w A3 l3.length l3) (hc3 : l3.length <= c3) (h : amz.f k a0 a1 l2 l3 = some (r1, r2)) :
  Calls Tryz.prog 52 #[.int .i64 a0, .int .u32 a1, .slice A2 l2.length c2, .slice A3 l3.length c3] w fun e w'=> ∃v0_:Value,e= .returned (.tuple #[v0_, .bool r2])/\Kd.R (Kd.int .u8) 5 w' w.heap.size (fun _=>True) v0_ r1/\Below w.heap.size w w':=by
 have HR2:=Aside0.mk hr2;have HC2:=Aside0.mk hc2;clear hr2 hc2;have HR3:=Aside0.mk hr3;have HC3:=Aside0.mk hc3;clear hr3 hc3;have HB:=Aside0.mk (Below.refl w.heap.size w);have H:=h;clear h;unfold amz.f at H;have HC5:=Aside0.mk H;clear H;go_enter Tryz.func52,Tryz.ntmps52
 go_upto_region 1 with (fail)
 go_cut [25] (fun v25 wc=> ∃(kq:Nat) (x25_4:Bool),v25= .bool x25_4/\Aside0 (amz.j0 kq a0 a1 l2 l3 x25_4=some (r1,r2))/\Aside0 (kq<=k)/\Aside0 (Below w.heap.size w wc))
 case first=>
  have H:=HC5.out;clear HC5;by_cases c6:(l2.length:Int)=(l3.length:Int)
  ·rw [if_pos c6] at H;have c6b0:((l2.length:Int)==(l3.length:Int))=true:=beq_iff_eq.mpr c6;have c6b1:((l2.length:Int) !=(l3.length:Int))=false:=bne_eq_false_iff_eq.mpr c6
   have c6b2:(l2.length==l3.length)=true:=by first|simpa using c6|(simp at c6|-;omega)
   clear c6
   (first|rw [c6b0] |(simp only [i64_w,i32_w];rw [c6b0])|skip)
   have H':=Aside0.mk H;clear H;go_wp2
   go_meet
   case rel=>exact ⟨_,(((l2.length:Int)==0)),sd_,H',⟨by first|omega|exact Nat.le_refl _⟩,⟨bl_⟩⟩
  ·rw [if_neg c6] at H;have c6b0:((l2.length:Int)==(l3.length:Int))=false:=beq_eq_false_iff_ne.mpr c6;have c6b1:((l2.length:Int) !=(l3.length:Int))=true:=bne_iff_ne.mpr c6
   have c6b2:(l2.length==l3.length)=false:=by first|simpa using c6|(simp at c6|-;omega)
   (first|rw [c6b0] |(simp only [i64_w,i32_w];rw [c6b0])|skip)
   have H':=Aside0.mk H;clear H;go_wp2
   go_meet
   case rel=>exact ⟨_,(true),sd_,H',⟨by first|omega|exact Nat.le_refl _⟩,⟨bl_⟩⟩
 case rest=>
  clear HC5
  try clear c2
  try clear p2
  try clear c3
  try clear c5
  try clear c6
  try clear c6b0
  try clear c6b1
  try clear c6b2
  obtain ⟨kq,x25_4,rfl,HA,HJ4,HB⟩:=hcut;rcases kq with _|kj4
  ·exact absurd HA.out (by simp [amz.j0])
  have H:=HA.out;clear HA;simp only [amz.j0] at H;by_cases c7:x25_4=true
  ·subst c7;rw [if_pos rfl] at H;simp only [Option.some.injEq,Prod.mk.injEq] at H;obtain ⟨rfl,rfl⟩:=H;go_wp2;go_ret2;exact ⟨_,er_,nl_,bl_⟩
  ·replace c7:=Bool.eq_false_iff.mpr c7;subst c7;rw [if_neg (show¬(false=true) by decide)] at H;have H':=Aside0.mk H;clear H;go_wp2
   go_loopg [10,11] kj4 (fun kq v10 v11 w'=> ∃(x10_2:List Int) (x11_2:Int),v11= .int .i64 x11_2/\Aside0 (amz.l0 kq a0 a1 l2 l3 x10_2 x11_2=some (r1,r2))/\Aside0 (kq<=kj4)/\Aside0 (Kd.R (Kd.int .u8) 5 w' w.heap.size (fun _=>True) v10 x10_2)/\Aside0 (Below w.heap.size w w'))
   case atStart=>exact ⟨(([] :List Int)),(0),sd_,H',⟨Nat.le_refl _⟩,⟨nl_⟩,⟨bl_⟩⟩
   clear H'
   try clear c2
   try clear p2
   try clear c3
   try clear c5
   try clear c6
   try clear c6b0
   try clear c6b1
   try clear c6b2
   try clear c7
   try clear p2
   obtain ⟨x10_2,x11_2,rfl,HA,HK2,HO_10,HB⟩:=hrel;rcases gk with _|k2
   ·exact absurd HA.out (by simp [amz.l0])
   have H:=HA.out;clear HA;simp only [amz.l0] at H;by_cases c8:x11_2<(l2.length:Int)
   rotate_left
   ·rw [if_neg c8] at H;have c8b0:=decide_eq_false c8;clear c8;simp only [Option.some.injEq,Prod.mk.injEq] at H;obtain ⟨rfl,rfl⟩:=H;go_wp2;go_ret2;exact ⟨_,er_,xd_ HO_10.out,bl_⟩
   rw [if_pos c8] at H;have c8b0:=decide_eq_true c8;clear c8;by_cases c9:0<=x11_2
   rotate_left
   ·rw [if_neg c9] at H;exact absurd H (by simp)
   rw [if_pos c9] at H;have c9b0:=decide_eq_true c9;clear c9;by_cases c10:x11_2<(l3.length:Int)
   rotate_left
   ·rw [if_neg c10] at H;exact absurd H (by simp)
   rw [if_pos c10] at H;have c10b0:=decide_eq_true c10;clear c10;obtain ⟨⟨t742,t743⟩,A11,H⟩:=ob_ H
   (try dsimp only at H)
   have HC12:=Aside0.mk H;clear H
   try go_wp2
   have n_:=And.intro (Aside0.mk (Kd.cGz HO_10.out)) (Aside0.mk (bWz HB.out));clear HO_10 HB;obtain ⟨HO_10,HB⟩:=n_;have p740:0<=(x11_2:Int):=of_decide_eq_true as_;have q740:x11_2<(l2.length:Int):=of_decide_eq_true as_;obtain ⟨ad740,e740,hx740_0⟩:=Kd.brz HR2.out x11_2 p740 q740;have hw740_0:=hx740_0;cases e740
   replace hx740_0:=(HB.out.cell (World.block_lt_of_cell? w _ hx740_0)).trans hx740_0;replace p740:=eq_true p740;replace q740:=eq_true q740;have p741:0<=(x11_2:Int):=of_decide_eq_true as_;have q741:x11_2<(l3.length:Int):=of_decide_eq_true as_;obtain ⟨ad741,A741_0,c741_0,e741,hx741_0,hl741_0,hi741_0⟩:=at_L1 HR3.out x11_2 p741 q741;have hw741_0:=hx741_0;cases e741
   replace hx741_0:=(HB.out.cell (World.block_lt_of_cell? w _ hx741_0)).trans hx741_0;have HR741_0:=Aside0.mk hi741_0;have HC741_0:=Aside0.mk hl741_0;clear hi741_0 hl741_0;replace p741:=eq_true p741;replace q741:=eq_true q741;refine bPz (n:=16) (S:=fun w'=>w'.cell? (ad740.add (x11_2).toNat)=some (.int .i64 (rd l2 x11_2))/\w'.cell? (ad741.add (x11_2).toNat)=some (.slice A741_0 (rd_L1 l3 x11_2).length c741_0)) (ds:= []) (bA 16 0) kr_ rfl rfl ⟨((HB.out.cell (World.block_lt_of_cell? w _ hw740_0)).trans hw740_0),((HB.out.cell (World.block_lt_of_cell? w _ hw741_0)).trans hw741_0)⟩ (fun hHeld=> ?_);refine crz amz.tab7 amz.bits7 (fun HT_ HW_=> ?_);generalize wr.drew=w13 at HO_10 HB HR741_0 hx740_0 hx741_0 hHeld|-;refine pv_ 0 33 1 HT_ ?_;refine pv_ 1 34 3 HT_ ?_;refine pv_ 2 35 7 HT_ ?_;refine pv_ 3 36 15 HT_ ?_;refine pv_ 4 37 31 HT_ ?_;refine pv_ 6 39 95 HT_ ?_;refine pv_ 7 40 223 HT_ ?_;refine pv_ 8 41 479 HT_ ?_
   refine tw_ 5 38 511 HT_ HW_ hHeld ?_;refine tw_ 9 42 1023 HT_ HW_ hHeld ?_;refine one_ (i:=10) (N:=some 43) (bA 16 2047) rfl rfl (cqz HT_.out kr_) (by decide) (fun K hK=> ?_);refine goes_ Tryz.func71 kr_ rfl #[.int .i64 a0, .int .u32 a1, .int .i64 (rd l2 x11_2), .slice A741_0 (rd_L1 l3 x11_2).length c741_0] (by rfl) rfl rfl ar_ ?_
   with_reducible refine (a1z.calls k2 a0 a1 (rd l2 x11_2) _ _ (rd_L1 l3 x11_2) t742 t743 _ ?side1 ?side2 A11.out).mono ?_
   (case side1=>repeat (first|exact (Kd.aLz HR741_0.out HB.out)|(with_reducible refine Kd.bUz ?_ _)|(with_reducible refine Kd.bvz ?_ _)|(with_reducible refine Kd.bZz ?_)))
   (case side2=>exact HC741_0.out)
   rintro e w14 ⟨v744,rfl,ho0,hb⟩;refine ⟨_,rfl,?_⟩;have n_:=And.intro (Aside0.mk (Kd.dKz (xd_ HO_10.out) (Kd.cbz ho0) hb)) (And.intro (Aside0.mk (Kd.bKz (Kd.R_new' ho0 (Kd.R_lt (xd_ HO_10.out))) (aez bl_))) (hs_ HB hb));clear HO_10 HB;obtain ⟨HO_10,HO745,HB⟩:=n_
   (try clear hb)
   (try clear hb2)
   (try clear hk)
   (try clear hi)
   (try clear ho0)
   refine hK.out _ _ ⟨((HB.out.cell (World.block_lt_of_cell? w _ hw740_0)).trans hw740_0),((HB.out.cell (World.block_lt_of_cell? w _ hw741_0)).trans hw741_0)⟩ (fun hHeld=> ?_);clear hK K;refine norm_ (a':= ?_) ?_ ?_;rotate_left
   ·show Act.put _ (some 43) _=_;simp only [Act.put,List.setIfInBounds_toArray,List.set_cons_zero,List.set_cons_succ,i64_w,i32_w];rfl
   refine pv_ 11 32 4095 HT_ ?_;refine pv_ 12 44 8191 HT_ ?_;refine pv_ 13 45 16383 HT_ ?_;refine pv_ 14 12 32767 HT_ ?_;refine pv_ 15 13 65535 HT_ ?_;refine done_ (cRz HT_.out kr_) ?_
   go_upto_region 8 with (fail)
   go_cut [59] (fun v59 wc=> ∃(kq:Nat) (x59_11:Bool),v59= .bool x59_11/\Aside0 (amz.j2 kq a0 a1 l2 l3 x10_2 x11_2 t742 x59_11=some (r1,r2))/\Aside0 (kq<=k2)/\Aside0 (Kd.R (Kd.int .u8) 5 wc w.heap.size (fun k_=>some k_≠(v744:Value).ownBlock) u10 x10_2)/\Aside0 (Kd.R (Kd.int .u8) 5 wc w.heap.size (fun k_=>some k_≠(u10:Value).ownBlock) v744 t742)/\Aside0 (Below w.heap.size w wc))
   case first=>
    have H:=HC12.out;clear HC12;by_cases c15:t743=true
    rotate_left
    ·replace c15:=Bool.eq_false_iff.mpr c15;subst c15;rw [if_neg (show¬(false=true) by decide)] at H;have H':=Aside0.mk H;clear H
     try go_wp2
     have n_:=And.intro (Aside0.mk (Kd.cGz HO_10.out)) (And.intro (Aside0.mk (Kd.cGz HO745.out)) (Aside0.mk (bWz HB.out)));clear HO_10 HO745 HB;obtain ⟨HO_10,HO745,HB⟩:=n_;refine bPz (n:=14) (S:=fun w'=>True) (ds:= []) (bA 14 0) kr_ rfl rfl trivial (fun hHeld=> ?_);refine crz amz.tab8 amz.bits8 (fun HT_ HW_=> ?_);generalize w14.drew=w18 at HO_10 HO745 HB hHeld|-;refine pv_ 0 46 1 HT_ ?_;refine pv_ 1 47 3 HT_ ?_;refine pv_ 2 48 7 HT_ ?_;refine pure_ (i:=3) (N:=some 49) (v:=undef) (a':= ?_) (bA 14 15) rfl rfl (c4z HT_.out kr_) (fun _ _ _ h=>h) (Or.inr ⟨by rfl,rfl⟩) ?_ ?_;rotate_left
     ·simp only [Act.put,List.setIfInBounds_toArray,List.set_cons_zero,List.set_cons_succ,i64_w,i32_w];rfl
     refine pure_ (i:=4) (N:=some 50) (v:=undef) (a':= ?_) (bA 14 31) rfl rfl (c4z HT_.out kr_) (fun _ _ _ h=>h) (Or.inr ⟨by rfl,rfl⟩) ?_ ?_;rotate_left
     ·simp only [Act.put,List.setIfInBounds_toArray,List.set_cons_zero,List.set_cons_succ,i64_w,i32_w];rfl
     refine pure_ (i:=5) (N:=some 51) (v:=undef) (a':= ?_) (bA 14 63) rfl rfl (c4z HT_.out kr_) (fun _ _ _ h=>h) (Or.inr ⟨by rfl,rfl⟩) ?_ ?_;rotate_left
     ·simp only [Act.put,List.setIfInBounds_toArray,List.set_cons_zero,List.set_cons_succ,i64_w,i32_w];rfl
     refine pure_ (i:=6) (N:=some 52) (v:=undef) (a':= ?_) (bA 14 127) rfl rfl (c4z HT_.out kr_) (fun _ _ _ h=>h) (Or.inr ⟨by rfl,rfl⟩) ?_ ?_;rotate_left
     ·simp only [Act.put,List.setIfInBounds_toArray,List.set_cons_zero,List.set_cons_succ,i64_w,i32_w];rfl
     refine pure_ (i:=7) (N:=some 53) (v:=undef) (a':= ?_) (bA 14 255) rfl rfl (c4z HT_.out kr_) (fun _ _ _ h=>h) (Or.inr ⟨by rfl,rfl⟩) ?_ ?_;rotate_left
     ·simp only [Act.put,List.setIfInBounds_toArray,List.set_cons_zero,List.set_cons_succ,i64_w,i32_w];rfl
     refine pure_ (i:=8) (N:=some 54) (v:=undef) (a':= ?_) (bA 14 511) rfl rfl (c4z HT_.out kr_) (fun _ _ _ h=>h) (Or.inr ⟨by rfl,rfl⟩) ?_ ?_;rotate_left
     ·simp only [Act.put,List.setIfInBounds_toArray,List.set_cons_zero,List.set_cons_succ,i64_w,i32_w];rfl
     refine pure_ (i:=9) (N:=some 55) (v:=undef) (a':= ?_) (bA 14 1023) rfl rfl (c4z HT_.out kr_) (fun _ _ _ h=>h) (Or.inr ⟨by rfl,rfl⟩) ?_ ?_;rotate_left
     ·simp only [Act.put,List.setIfInBounds_toArray,List.set_cons_zero,List.set_cons_succ,i64_w,i32_w];rfl
     refine pure_ (i:=10) (N:=some 56) (v:=undef) (a':= ?_) (bA 14 2047) rfl rfl (c4z HT_.out kr_) (fun _ _ _ h=>h) (Or.inr ⟨by rfl,rfl⟩) ?_ ?_;rotate_left
     ·simp only [Act.put,List.setIfInBounds_toArray,List.set_cons_zero,List.set_cons_succ,i64_w,i32_w];rfl
     refine pure_ (i:=11) (N:=some 57) (v:=undef) (a':= ?_) (bA 14 4095) rfl rfl (c4z HT_.out kr_) (fun _ _ _ h=>h) (Or.inr ⟨by rfl,rfl⟩) ?_ ?_;rotate_left
     ·simp only [Act.put,List.setIfInBounds_toArray,List.set_cons_zero,List.set_cons_succ,i64_w,i32_w];rfl
     refine pure_ (i:=12) (N:=some 58) (v:=undef) (a':= ?_) (bA 14 8191) rfl rfl (c4z HT_.out kr_) (fun _ _ _ h=>h) (Or.inr ⟨by rfl,rfl⟩) ?_ ?_;rotate_left
     ·simp only [Act.put,List.setIfInBounds_toArray,List.set_cons_zero,List.set_cons_succ,i64_w,i32_w];rfl
     refine pv_ 13 59 16383 HT_ ?_;refine done_ (cRz HT_.out kr_) ?_
     try go_wp2
     go_meet
     case rel=>exact ⟨_,(true),sd_,H',⟨by have:=HJ4.out;have:=HK2.out;first|omega|exact Nat.le_refl _⟩,⟨rm_ HO_10⟩,⟨rm_ HO745⟩,⟨bl_⟩⟩
    subst c15;rw [if_pos rfl] at H;by_cases c16:0<(l3.length:Int)
    rotate_left
    ·rw [if_neg c16] at H;exact absurd H (by simp)
    rw [if_pos c16] at H;have c16b0:=decide_eq_true c16;have c16b1:decide (0<l3.length)=true:=decide_eq_true (by omega);clear c16
    (first|rw [c16b0] |(simp only [i64_w,i32_w];rw [c16b0])|skip)
    have H':=Aside0.mk H;clear H
    try go_wp2
    have n_:=And.intro (Aside0.mk (Kd.cGz HO_10.out)) (And.intro (Aside0.mk (Kd.cGz HO745.out)) (Aside0.mk (bWz HB.out)));clear HO_10 HO745 HB;obtain ⟨HO_10,HO745,HB⟩:=n_;have p746:0<=(x11_2:Int):=of_decide_eq_true as_;have q746:x11_2<(l3.length:Int):=of_decide_eq_true as_;obtain ⟨ad746,A746_0,c746_0,e746,hx746_0,hl746_0,hi746_0⟩:=at_L1 HR3.out x11_2 p746 q746;have hw746_0:=hx746_0;obtain rfl:ad741=ad746:=(by injection e746);replace hx746_0:=(HB.out.cell (World.block_lt_of_cell? w _ hx746_0)).trans hx746_0;have HR746_0:=Aside0.mk hi746_0;have HC746_0:=Aside0.mk hl746_0;clear hi746_0 hl746_0;replace p746:=eq_true p746;replace q746:=eq_true q746;have p747:0<=(0:Int):=(by omega);have q747:0<(l3.length:Int):=of_decide_eq_true as_;obtain ⟨ad747,A747_0,c747_0,e747,hx747_0,hl747_0,hi747_0⟩:=at_L1 HR3.out 0 p747 q747;have hw747_0:=hx747_0
    (try rw [show ((0:Int)).toNat=0 from rfl] at hw747_0)
    (try rw [show 0*1=0 from rfl] at hw747_0)
    (try rw [Addr.add_zero'] at hw747_0)
    obtain rfl:ad741=ad747:=(by injection e747);have qi747:(0<l3.length)=True:=eq_true (by omega)
    (try rw [show ((0:Int)).toNat=0 from rfl] at hx747_0)
    (try rw [Addr.add_zero'] at hx747_0)
    replace hx747_0:=(HB.out.cell (World.block_lt_of_cell? w _ hx747_0)).trans hx747_0;have HR747_0:=Aside0.mk hi747_0;have HC747_0:=Aside0.mk hl747_0;clear hi747_0 hl747_0;replace p747:=eq_true p747;replace q747:=eq_true q747;refine bPz (n:=14) (S:=fun w'=>w'.cell? (ad741.add (x11_2).toNat)=some (.slice A746_0 (rd_L1 l3 x11_2).length c746_0)/\w'.cell? ad741=some (.slice A747_0 (rd_L1 l3 0).length c747_0)) (ds:= []) (bA 14 0) kr_ rfl rfl ⟨((HB.out.cell (World.block_lt_of_cell? w _ hw746_0)).trans hw746_0),((HB.out.cell (World.block_lt_of_cell? w _ hw747_0)).trans hw747_0)⟩ (fun hHeld=> ?_);refine crz amz.tab8 amz.bits8 (fun HT_ HW_=> ?_);generalize w14.drew=w17 at HO_10 HO745 HB HR746_0 HR747_0 hx746_0 hx747_0 hHeld|-;refine pv_ 0 46 1 HT_ ?_;refine pv_ 1 47 3 HT_ ?_;refine pv_ 2 48 7 HT_ ?_;refine pv_ 3 49 15 HT_ ?_;refine pv_ 4 50 31 HT_ ?_;refine pv_ 5 51 63 HT_ ?_;refine pv_ 8 54 319 HT_ ?_
    refine pv_ 9 55 831 HT_ ?_;refine tw_ 6 52 895 HT_ HW_ hHeld ?_;refine pv_ 7 53 1023 HT_ ?_;refine tw_ 10 56 2047 HT_ HW_ hHeld ?_;refine pv_ 11 57 4095 HT_ ?_;refine pv_ 12 58 8191 HT_ ?_;refine pv_ 13 59 16383 HT_ ?_;refine done_ (cRz HT_.out kr_) ?_
    try go_wp2
    go_meet
    case rel=>exact ⟨_,((((rd_L1 l3 x11_2).length:Int) !=((rd_L1 l3 0).length:Int))),sd_,H',⟨by have:=HJ4.out;have:=HK2.out;first|omega|exact Nat.le_refl _⟩,⟨rm_ HO_10⟩,⟨rm_ HO745⟩,⟨bl_⟩⟩
   case rest=>
    clear HC12
    try clear c1
    try clear c2
    try clear p2
    try clear c3
    try clear c5
    try clear c6
    try clear c6b0
    try clear c6b1
    try clear c6b2
    try clear c7
    try clear p7
    try clear q7
    try clear hx7
    try clear qi7
    try clear c8
    try clear c8b0
    try clear c9
    try clear c9b0
    try clear c10
    try clear c10b0
    try clear c15
    try clear c16
    try clear c16b0
    try clear c16b1
    try clear hx740_0
    try clear hx741_0
    try clear hx746_0
    try clear hx747_0
    try clear p2
    try clear p740
    try clear p741
    try clear p746
    try clear p747
    try clear q740
    try clear q741
    try clear q746
    try clear q747
    obtain ⟨kq,x59_11,rfl,HA,HJ11,HO_10,HO_12,HB⟩:=hcut;rcases kq with _|kj11
    ·exact absurd HA.out (by simp [amz.j2])
    have H:=HA.out;clear HA;simp only [amz.j2] at H;by_cases c19:x59_11=true
    ·subst c19;rw [if_pos rfl] at H;simp only [Option.some.injEq,Prod.mk.injEq] at H;obtain ⟨rfl,rfl⟩:=H;go_wp2;go_ret2;exact ⟨_,er_,nl_,bl_⟩
    ·replace c19:=Bool.eq_false_iff.mpr c19;subst c19;rw [if_neg (show¬(false=true) by decide)] at H;by_cases c20:x11_2=0
     ·rw [if_pos c20] at H;have c20b0:(x11_2==0)=true:=beq_iff_eq.mpr c20;have c20b1:(x11_2 !=0)=false:=bne_eq_false_iff_eq.mpr c20;clear c20;have H':=Aside0.mk H;clear H;go_wp2
      go_roundg kj11
      case measure=>have:=HJ4.out;have:=HK2.out;have:=HJ11.out;omega
      case rel=>exact ⟨(t742),(wrap64 (x11_2+1)),sd_,H',⟨by have:=HJ4.out;have:=HK2.out;have:=HJ11.out;omega⟩,⟨rm_ HO_12⟩,⟨bl_⟩⟩
     ·rw [if_neg c20] at H;have c20b0:(x11_2==0)=false:=beq_eq_false_iff_ne.mpr c20;have c20b1:(x11_2 !=0)=true:=bne_iff_ne.mpr c20;obtain ⟨⟨t748,t749⟩,A21,H⟩:=ob_ H
      (try dsimp only at H)
      have H':=Aside0.mk H;clear H;obtain ⟨Ao22,co22,eo22⟩:=Kd.bgz HO_10.out;subst eo22;obtain ⟨Ao23,co23,eo23⟩:=Kd.bgz HO_12.out;subst eo23
      go_wp2_with (first|((with_reducible refine abz (f:=70) rfl ?_);refine gl_ (some 66) Tryz.func70 #[.slice Ao22 x10_2.length co22, .slice Ao23 t742.length co23] ?_;(with_reducible refine (aSz.calls kj11 _ _ x10_2 _ _ t742 t748 t749 _ (xd_ (Kd.aRz HO_10.out).2.2) ((Kd.aRz HO_10.out).2.1) (xd_ (Kd.aRz HO_12.out).2.2) ((Kd.aRz HO_12.out).2.1) A21.out).mono ?_);rintro e w24 ⟨v750,rfl,ho0,hb⟩;refine ⟨_,rfl,?_⟩;have n_:=And.intro (Aside0.mk (Kd.dKz (xd_ HO_10.out) (Kd.cbz ho0) hb)) (And.intro (Aside0.mk (Kd.dKz (xd_ HO_12.out) (Kd.cbz ho0) hb)) (And.intro (Aside0.mk (Kd.bKz (Kd.R_new' (Kd.R_new' ho0 (Kd.R_lt (xd_ HO_10.out))) (Kd.R_lt (xd_ HO_12.out))) (aez bl_))) (hs_ HB hb)));clear HO_10 HO_12 HB;obtain ⟨HO_10,HO_12,HO751,HB⟩:=n_;clear hb ho0))
      go_roundg kj11
      case measure=>have:=HJ4.out;have:=HK2.out;have:=HJ11.out;omega
      case rel=>exact ⟨(t748),(wrap64 (x11_2+1)),sd_,H',⟨by have:=HJ4.out;have:=HK2.out;have:=HJ11.out;omega⟩,⟨rm_ HO751⟩,⟨bl_⟩⟩
mutual
def apz.j0:Nat->List (List Int)->Bool->Int->Int->Int->Option ((List (List Int))×Int)
 |0,_,_,_,_,_=>none
 |k+1,x1,x29,x753000,x753001,x753002=>if x29=true then (some (([] :List (List Int)),1)) else ((a0z.f x753000).bind fun bt755=>((bqz.f k x753000 x753001 x753002).bind fun bt762=>(apz.l0 k x1 bt762.1 ([] :List (List Int)) 0 bt755.1 bt755.2.1 bt755.2.2.1 bt755.2.2.2.1 bt755.2.2.2.2.1)))
def apz.l0:Nat->List (List Int)->List (List Int)->List (List Int)->Int->ByteArray->Int->Int->Int->Int->Option ((List (List Int))×Int)
 |0,_,_,_,_,_,_,_,_,_=>none
 |k+1,x1,x8,x10,x11,x762000,x762001,x762002,x762003,x762004=>if x11<(x8.length:Int) then (if 0<=x11 then ((amz.f k x762001 x762002 (rd_L4 x8 x11) x1).bind fun bt767=>(if x10.length<5864062014805 then (apz.l0 k x1 x8 (x10++ [bt767.1]) (wrap64 (x11+1)) x762000 x762001 x762002 x762003 x762004) else (none))) else (none)) else (some (x10,0))
end
def apz.f (k:Nat) (a0_0:Int) (a0_1:Int) (a0_2:Int) (l1:List (List Int)):Option ((List (List Int))×Int):=(biz.f a0_0 a0_1 a0_2).bind fun t753=>(if t753=true then (if (l1.length:Int)=a0_1 then ((bez.f k a0_0 a0_1 a0_2 l1).bind fun t754=>(apz.j0 k l1 (!t754) a0_0 a0_1 a0_2)) else (apz.j0 k l1 true a0_0 a0_1 a0_2)) else (apz.j0 k l1 true a0_0 a0_1 a0_2))
def apz.T9:Bool×List (List Nat×List Nat):=(true, [([], []),([0], [0]),([], []),([2], [2]),([], []),([], []),([4,5], [4,5]),([6], [6]),([], []),([1,3,7,8], [1,3,7,8]),([9], [9]),([10], [10]),([10], [10]),([11,9,0,1,2,3,4,5,6,7,8,9,10,11], [11]),([12,13,0,1,2,3,4,5,6,7,8,9,10,11,12,13], [12])])
def apz.B9:List Nat:= [0,1,0,4,0,0,48,112,0,511,1023,2047,2047,4095,16383]
theorem apz.tab9:rtab .any (opsOf Tryz.f20 9)=apz.T9:=by kernel_rfl
theorem apz.bits9:waitsOk apz.T9.2 apz.B9=true:=by kernel_rfl
theorem apz.calls (k : Nat) (a0_0 : Int) (a0_1 : Int) (a0_2 : Int) (A1 : Option Addr) (c1 : Nat) (l1 : List (List Int)) (r1 : List (List Int)) (r2 : Int) (w : World) (hr1 : Kd.C (Kd.slice 5 (Kd.int .u8)) w A1 l1.length l1) (hc1 : l1.length <= c1) (h : apz.f k a0_0 a0_1 a0_2 l1 = some (r1, r2)) :
  Calls Tryz.prog 20 #[.agg #[.int .i64 a0_0, .int .i64 a0_1, .int .i64 a0_2], .slice A1 l1.length c1] w fun e w'=> ∃v0_:Value,e= .returned (.tuple #[v0_, .int .i64 r2])/\Kd.S (Kd.slice 5 (Kd.int .u8)) 34 w' w.heap.size (fun _=>True) v0_ r1/\Below w.heap.size w w':=by
 have hu23:=Tryz.underlying23;have hu79:=Tryz.underlying79;have HR1:=Aside0.mk hr1;have HC1:=Aside0.mk hc1;clear hr1 hc1;have HB:=Aside0.mk (Below.refl w.heap.size w);have H:=h;clear h;unfold apz.f at H;have HC3:=Aside0.mk H;clear H;go_enter Tryz.func20,Tryz.ntmps20
 go_upto_region 1 with (first|((with_reducible refine a8z (N:=2) rfl ?_);(try (refine a4z (by rfl) ?_;dsimp only));refine bx_ 2 #[.int .i64 a0_0, .int .i64 a0_1, .int .i64 a0_2] 23 ?_;intro gb752 hg w4 hbox hb;have n_:=And.intro (hs_ HB hb) (And.intro (Aside0.mk (hbox)) (And.intro (ag_ HB gb752) (ag_ HB gb752)));clear HB;obtain ⟨HB,BK752,GW752,GE752⟩:=n_;clear hb hbox hg))
 (try simp only [Act.put,List.setIfInBounds_toArray,List.set_cons_zero,List.set_cons_succ])
 go_cut [29] (fun v29 wc=> ∃(kq:Nat) (x29_2:Bool),v29= .bool x29_2/\Aside0 (apz.j0 kq l1 x29_2 a0_0 a0_1 a0_2=some (r1,r2))/\Aside0 (kq<=k)/\Aside0 (wc.heap[gb752]?=some (.cells #[.int .i64 a0_0, .int .i64 a0_1, .int .i64 a0_2] 23 (0,0)))/\Aside0 (Below w.heap.size w wc))
 case first=>
  have H:=HC3.out;clear HC3;obtain ⟨t753,A5,H⟩:=ob_ H
  (try dsimp only at H)
  by_cases c6:t753=true
  rotate_left
  ·replace c6:=Bool.eq_false_iff.mpr c6;subst c6;rw [if_neg (show¬(false=true) by decide)] at H;have H':=Aside0.mk H;clear H;obtain ⟨hcz16_0,hfz16_0,hcz16_1,hfz16_1,hcz16_2,hfz16_2⟩:=bc3_ BK752.out
   go_wp2_with (first|((with_reducible refine abz (f:=48) rfl ?_);refine gl_ (some 15) Tryz.func48 #[.agg #[.int .i64 a0_0, .int .i64 a0_1, .int .i64 a0_2]] ?_;(with_reducible refine (biz.calls a0_0 a0_1 a0_2 false _ A5.out).mono ?_);rintro e w17 ⟨rfl,hb⟩;refine ⟨_,rfl,?_⟩;have n_:=And.intro (bb_ BK752 hb) (hs_ HB hb);clear BK752 HB;obtain ⟨BK752,HB⟩:=n_;(try clear hb)))
   go_meet
   case rel=>exact ⟨_,(true),sd_,H',⟨by first|omega|exact Nat.le_refl _⟩,⟨bk_⟩,⟨bl_⟩⟩
  subst c6;rw [if_pos rfl] at H;by_cases c7:(l1.length:Int)=a0_1
  rotate_left
  ·rw [if_neg c7] at H;have c7b0:((l1.length:Int)==a0_1)=false:=beq_eq_false_iff_ne.mpr c7;have c7b1:((l1.length:Int) !=a0_1)=true:=bne_iff_ne.mpr c7
   (first|rw [c7b0] |(simp only [i64_w,i32_w];rw [c7b0])|skip)
   have H':=Aside0.mk H;clear H;obtain ⟨hcz13_0,hfz13_0,hcz13_1,hfz13_1,hcz13_2,hfz13_2⟩:=bc3_ BK752.out
   go_wp2_with (first|((with_reducible refine abz (f:=48) rfl ?_);refine gl_ (some 15) Tryz.func48 #[.agg #[.int .i64 a0_0, .int .i64 a0_1, .int .i64 a0_2]] ?_;(with_reducible refine (biz.calls a0_0 a0_1 a0_2 true _ A5.out).mono ?_);rintro e w14 ⟨rfl,hb⟩;refine ⟨_,rfl,?_⟩;have n_:=And.intro (bb_ BK752 hb) (hs_ HB hb);clear BK752 HB;obtain ⟨BK752,HB⟩:=n_;(try clear hb);obtain ⟨hcz15_0,hfz15_0,hcz15_1,hfz15_1,hcz15_2,hfz15_2⟩:=bc3_ BK752.out))
   go_meet
   case rel=>exact ⟨_,(true),sd_,H',⟨by first|omega|exact Nat.le_refl _⟩,⟨bk_⟩,⟨bl_⟩⟩
  rw [if_pos c7] at H;have c7b0:((l1.length:Int)==a0_1)=true:=beq_iff_eq.mpr c7;have c7b1:((l1.length:Int) !=a0_1)=false:=bne_eq_false_iff_eq.mpr c7;clear c7
  (first|rw [c7b0] |(simp only [i64_w,i32_w];rw [c7b0])|skip)
  obtain ⟨t754,A8,H⟩:=ob_ H
  (try dsimp only at H)
  have H':=Aside0.mk H;clear H;obtain ⟨hcz9_0,hfz9_0,hcz9_1,hfz9_1,hcz9_2,hfz9_2⟩:=bc3_ BK752.out
  go_wp2_with (first|((with_reducible refine abz (f:=48) rfl ?_);refine gl_ (some 15) Tryz.func48 #[.agg #[.int .i64 a0_0, .int .i64 a0_1, .int .i64 a0_2]] ?_;(with_reducible refine (biz.calls a0_0 a0_1 a0_2 true _ A5.out).mono ?_);rintro e w10 ⟨rfl,hb⟩;refine ⟨_,rfl,?_⟩;have n_:=And.intro (bb_ BK752 hb) (hs_ HB hb);clear BK752 HB;obtain ⟨BK752,HB⟩:=n_;(try clear hb);obtain ⟨hcz11_0,hfz11_0,hcz11_1,hfz11_1,hcz11_2,hfz11_2⟩:=bc3_ BK752.out)|(go_at_call 49;(with_reducible refine (bez.calls k a0_0 a0_1 a0_2 _ _ l1 t754 _ (xd_ (Kd.aLz HR1.out HB.out)) (HC1.out) A8.out).mono ?_);rintro e w12 ⟨rfl,hb⟩;have n_:=And.intro (bb_ BK752 hb) (hs_ HB hb);clear BK752 HB;obtain ⟨BK752,HB⟩:=n_;(try clear hb)))
  go_meet
  case rel=>exact ⟨_,(!t754),sd_,H',⟨by first|omega|exact Nat.le_refl _⟩,⟨bk_⟩,⟨bl_⟩⟩
 case rest=>
  clear HC3
  try clear c1
  try clear c2
  try clear p2
  try clear c4
  try clear c6
  try clear c7
  try clear c7b0
  try clear c7b1
  try clear hcz11_0
  try clear hcz11_1
  try clear hcz11_2
  try clear hcz13_0
  try clear hcz13_1
  try clear hcz13_2
  try clear hcz15_0
  try clear hcz15_1
  try clear hcz15_2
  try clear hcz16_0
  try clear hcz16_1
  try clear hcz16_2
  try clear hcz9_0
  try clear hcz9_1
  try clear hcz9_2
  try clear hfz11_0
  try clear hfz11_1
  try clear hfz11_2
  try clear hfz13_0
  try clear hfz13_1
  try clear hfz13_2
  try clear hfz15_0
  try clear hfz15_1
  try clear hfz15_2
  try clear hfz16_0
  try clear hfz16_1
  try clear hfz16_2
  try clear hfz9_0
  try clear hfz9_1
  try clear hfz9_2
  obtain ⟨kq,x29_2,rfl,HA,HJ2,BK752,HB⟩:=hcut;rcases kq with _|kj2
  ·exact absurd HA.out (by simp [apz.j0])
  have H:=HA.out;clear HA;simp only [apz.j0] at H;by_cases c18:x29_2=true
  ·subst c18;rw [if_pos rfl] at H;simp only [Option.some.injEq,Prod.mk.injEq] at H;obtain ⟨rfl,rfl⟩:=H;go_wp2;go_ret2;exact ⟨_,er_,nl_,bl_⟩
  ·replace c18:=Bool.eq_false_iff.mpr c18;subst c18;rw [if_neg (show¬(false=true) by decide)] at H;obtain ⟨⟨t755,t756,t757,t758,t759,t760⟩,A19,H⟩:=ob_ H
   (try dsimp only at H)
   obtain ⟨⟨t762,t765⟩,A20,H⟩:=ob_ H
   (try dsimp only at H)
   have H':=Aside0.mk H;clear H;obtain ⟨hcz21_0,hfz21_0,hcz21_1,hfz21_1,hcz21_2,hfz21_2⟩:=bc3_ BK752.out
   go_wp2_with (first|((with_reducible refine abz (f:=50) rfl ?_);refine gl_ (some 33) Tryz.func50 #[.int .i64 a0_0] ?_;(with_reducible refine (a0z.calls a0_0 t755 t756 t757 t758 t759 t760 _ A19.out).mono ?_);rintro e w22 ⟨rfl,hb⟩;refine ⟨_,rfl,?_⟩;have n_:=And.intro (bb_ BK752 hb) (hs_ HB hb);clear BK752 HB;obtain ⟨BK752,HB⟩:=n_;(try clear hb))|((with_reducible refine a8z (N:=6) rfl ?_);(try (refine a4z (by rfl) ?_;dsimp only));refine b6z ?hg (N:=6) ?hd (cs:= #[.string (⟨#[]⟩:ByteArray), .int .i64 0, .int .u32 0, .int .u8 0, .int .i64 0]) (t:=79) ?hr ?_;(case hd=>rfl);(case hg=>rfl);(case hr=>first|(go_simp;done)|(go_simp;rfl));intro gb761 hg w23 hbox hb;have n_:=And.intro (bb_ BK752 hb) (And.intro (hs_ HB hb) (And.intro (Aside0.mk (hbox)) (And.intro (ag_ HB gb761) (And.intro (ag_ HB gb761) (And.intro (n1_ BK752 gb761) (n2_ BK752 gb761))))));clear BK752 HB;obtain ⟨BK752,HB,BK761,GW761,GE761,NB752_761,NB761_752⟩:=n_;clear hb hbox hg;have hnb24:=NB761_752.out;have hnc24:=NB752_761.out;obtain ⟨hcz25_0,hfz25_0,hcz25_1,hfz25_1,hcz25_2,hfz25_2,hcz25_3,hfz25_3,hcz25_4,hfz25_4⟩:=bc5_ BK761.out;obtain ⟨hcz26_0,hfz26_0,hcz26_1,hfz26_1,hcz26_2,hfz26_2⟩:=bc3_ BK752.out)|((with_reducible refine abz (f:=51) rfl ?_);refine gl_ (some 38) Tryz.func51 #[.agg #[.int .i64 a0_0, .int .i64 a0_1, .int .i64 a0_2]] ?_;(with_reducible refine (bqz.calls kj2 a0_0 a0_1 a0_2 t762 t765 _ A20.out).mono ?_);rintro e w27 ⟨v763,rfl,ho0,hb⟩;refine ⟨_,rfl,?_⟩;have n_:=And.intro (Aside0.mk (Kd.V_lower (Kd.diz (ok':=fun k_=>k_≠gb752/\k_≠gb761) ho0 (fun k_ hk_=>⟨(Kd.freshB (g:=gb752) (o:= .cells #[.int .i64 a0_0, .int .i64 a0_1, .int .i64 a0_2] 23 (0,0)) kb_ k_ hk_),(Kd.freshB (g:=gb761) (o:= .cells #[.string t755, .int .i64 t756, .int .u32 t757, .int .u8 t758, .int .i64 t759] 79 (0,0)) kb_ k_ hk_)⟩)) (aez bl_))) (And.intro (Aside0.mk (aMz (g:=gb752) (o:= .cells #[.int .i64 a0_0, .int .i64 a0_1, .int .i64 a0_2] 23 (0,0)) kb_ hb)) (And.intro (Aside0.mk (aMz (g:=gb761) (o:= .cells #[.string t755, .int .i64 t756, .int .u32 t757, .int .u8 t758, .int .i64 t759] 79 (0,0)) kb_ hb)) (hs_ HB hb)));clear BK752 BK761 HB;obtain ⟨HO764,BK752,BK761,HB⟩:=n_;clear hb ho0))
   go_loopg [10,11] kj2 (fun kq v10 v11 w'=> ∃(x10_2:List (List Int)) (x11_2:Int),v11= .int .i64 x11_2/\Aside0 (apz.l0 kq l1 t762 x10_2 x11_2 t755 t756 t757 t758 t759=some (r1,r2))/\Aside0 (kq<=kj2)/\Aside0 (Kd.V (Kd.slice 3 (Kd.int .i64)) 57 w' w.heap.size (fun k_=>some k_≠(v10:Value).ownBlock/\k_≠gb752/\k_≠gb761) v763 t762)/\Aside0 (Kd.S (Kd.slice 5 (Kd.int .u8)) 34 w' w.heap.size (fun _=>True) v10 x10_2)/\Aside0 (w'.heap[gb752]?=some (.cells #[.int .i64 a0_0, .int .i64 a0_1, .int .i64 a0_2] 23 (0,0)))/\Aside0 (w'.heap[gb761]?=some (.cells #[.string t755, .int .i64 t756, .int .u32 t757, .int .u8 t758, .int .i64 t759] 79 (0,0)))/\Aside0 (Below w.heap.size w w'))
   case atStart=>exact ⟨(([] :List (List Int))),(0),sd_,H',⟨Nat.le_refl _⟩,⟨vm_ HO764⟩,⟨nl_⟩,⟨bk_⟩,⟨bk_⟩,⟨bl_⟩⟩
   clear H'
   try clear c1
   try clear c2
   try clear p2
   try clear c4
   try clear c5
   try clear c6
   try clear c7
   try clear c7b0
   try clear c7b1
   try clear c18
   try clear c20
   try clear c24
   try clear hcz11_0
   try clear hcz11_1
   try clear hcz11_2
   try clear hcz13_0
   try clear hcz13_1
   try clear hcz13_2
   try clear hcz15_0
   try clear hcz15_1
   try clear hcz15_2
   try clear hcz16_0
   try clear hcz16_1
   try clear hcz16_2
   try clear hcz21_0
   try clear hcz21_1
   try clear hcz21_2
   try clear hcz25_0
   try clear hcz25_1
   try clear hcz25_2
   try clear hcz25_3
   try clear hcz25_4
   try clear hcz26_0
   try clear hcz26_1
   try clear hcz26_2
   try clear hcz9_0
   try clear hcz9_1
   try clear hcz9_2
   try clear hfz11_0
   try clear hfz11_1
   try clear hfz11_2
   try clear hfz13_0
   try clear hfz13_1
   try clear hfz13_2
   try clear hfz15_0
   try clear hfz15_1
   try clear hfz15_2
   try clear hfz16_0
   try clear hfz16_1
   try clear hfz16_2
   try clear hfz21_0
   try clear hfz21_1
   try clear hfz21_2
   try clear hfz25_0
   try clear hfz25_1
   try clear hfz25_2
   try clear hfz25_3
   try clear hfz25_4
   try clear hfz26_0
   try clear hfz26_1
   try clear hfz26_2
   try clear hfz9_0
   try clear hfz9_1
   try clear hfz9_2
   try clear p2
   obtain ⟨x10_2,x11_2,rfl,HA,HK2,HO_8,HO_10,BK752,BK761,HB⟩:=hrel;rcases gk with _|k2
   ·exact absurd HA.out (by simp [apz.l0])
   have H:=HA.out;clear HA;simp only [apz.l0] at H;by_cases c28:x11_2<(t762.length:Int)
   rotate_left
   ·rw [if_neg c28] at H;have c28b0:=decide_eq_false c28;clear c28;simp only [Option.some.injEq,Prod.mk.injEq] at H;obtain ⟨rfl,rfl⟩:=H;obtain ⟨Ao37,co37,eo37⟩:=Kd.V_slice HO_8.out;subst eo37;go_wp2;go_ret2;exact ⟨_,er_,xd_ HO_10.out,bl_⟩
   rw [if_pos c28] at H;have c28b0:=decide_eq_true c28;clear c28;by_cases c29:0<=x11_2
   rotate_left
   ·rw [if_neg c29] at H;exact absurd H (by simp)
   rw [if_pos c29] at H;have c29b0:=decide_eq_true c29;clear c29;obtain ⟨⟨t767,t768⟩,A30,H⟩:=ob_ H
   (try dsimp only at H)
   by_cases c31:x10_2.length<5864062014805
   rotate_left
   ·rw [if_neg c31] at H;exact absurd H (by simp)
   rw [if_pos c31] at H;have LMc31:=Aside0.mk c31;clear c31;obtain ⟨y771,hy771⟩: ∃y_:List (List Int),y_=(x10_2++ [t767]):=⟨_,rfl⟩
   first|rw [Option.bind_some, <-hy771] at H|rw [<-hy771] at H
   (try dsimp only at H)
   have Ny771:=Aside0.mk hy771;clear hy771;have H':=Aside0.mk H;clear H;obtain ⟨Ao32,co32,eo32⟩:=Kd.V_slice HO_8.out;subst eo32
   try go_wp2
   have n_:=And.intro (Aside0.mk (Kd.djz HO_8.out)) (And.intro (Aside0.mk (Kd.S_drew HO_10.out)) (And.intro (Aside0.mk (cmz BK752.out)) (And.intro (Aside0.mk (cmz BK761.out)) (Aside0.mk (bWz HB.out)))));clear HO_8 HO_10 BK752 BK761 HB;obtain ⟨HO_8,HO_10,BK752,BK761,HB⟩:=n_;have p766:0<=(x11_2:Int):=of_decide_eq_true as_;have q766:x11_2<(t762.length:Int):=of_decide_eq_true as_;obtain ⟨ad766,A766_0,c766_0,e766,hx766_0,hl766_0,hi766_0⟩:=at_L4 (Kd.cUz HO_8.out).2.2 x11_2 p766 q766;cases e766
   obtain ⟨ce766,hce766,hMe766,hcc766⟩:=Kd.V_get HO_8.out [] x11_2 p766 (by first|exact q766|exact of_decide_eq_true as_|(have e_:=(Kd.cUz HO_8.out).1;omega));obtain ⟨ua766_0,uc766_0,rfl,ul766_0,ge766_0⟩:=Kd.czz hMe766;have hv766_0:=hcc766 0 _ rfl;rw [Nat.add_zero,show ((Kd.slice 3 (Kd.int .i64))).sz=1 from rfl,Nat.mul_one] at hv766_0;replace hv766_0:=Option.some.inj (hv766_0.symm.trans hx766_0);injection hv766_0 with hva_ hvn_ hvc_
   rw [hva_] at ge766_0;rw [hvc_] at ul766_0;have HL766_0:=Aside0.mk (show Kd.V (Kd.int .i64) 3 _ w.heap.size _ _ (rd_L4 t762 x11_2) from Kd.V_mk ul766_0 ge766_0);clear hva_ hvn_ hvc_ ge766_0 ul766_0;clear hcc766 hce766;have HR766_0:=Aside0.mk hi766_0;have HC766_0:=Aside0.mk hl766_0;clear hi766_0 hl766_0;replace p766:=eq_true p766;replace q766:=eq_true q766;refine bPz (n:=15) (S:=fun w'=>w'.cell? ⟨gb761,0,none⟩=some (.string t755)/\w'.cell? ⟨gb761,1,none⟩=some (.int .i64 t756)/\w'.cell? ⟨gb761,2,none⟩=some (.int .u32 t757)/\w'.cell? ⟨gb761,3,none⟩=some (.int .u8 t758)/\w'.cell? ⟨gb761,4,none⟩=some (.int .i64 t759)/\w'.cell? (ad766.add (x11_2).toNat)=some (.slice A766_0 (rd_L4 t762 x11_2).length c766_0)) (ds:= []) (bA 15 0) kr_ rfl rfl ⟨(acz BK761.out 0).trans rfl,(acz BK761.out 1).trans rfl,(acz BK761.out 2).trans rfl,(acz BK761.out 3).trans rfl,(acz BK761.out 4).trans rfl,hx766_0⟩ (fun hHeld=> ?_);refine crz apz.tab9 apz.bits9 (fun HT_ HW_=> ?_)
   generalize wr.drew=w33 at HO_8 HO_10 BK752 BK761 HB HL766_0 HR766_0 hx766_0 hHeld|-;refine pv_ 0 48 1 HT_ ?_;refine pv_ 2 50 5 HT_ ?_;refine pv_ 4 52 21 HT_ ?_;refine pv_ 5 53 53 HT_ ?_;refine pv_ 6 54 117 HT_ ?_;refine pv_ 8 56 373 HT_ ?_;refine tw_ 1 49 375 HT_ HW_ hHeld ?_;refine tw_ 3 51 383 HT_ HW_ hHeld ?_;refine tw_ 7 55 511 HT_ HW_ hHeld ?_;refine one_ (i:=9) (N:=some 57) (bA 15 1023) rfl rfl (cqz HT_.out kr_) (by decide) (fun K hK=> ?_);refine goes_ Tryz.func52 kr_ rfl #[.int .i64 t756, .int .u32 t757, .slice A766_0 (rd_L4 t762 x11_2).length c766_0, .slice A1 l1.length c1] (by rfl) rfl rfl ar_ ?_
   with_reducible refine (amz.calls k2 t756 t757 _ _ (rd_L4 t762 x11_2) _ _ l1 t767 t768 _ ?side1 ?side2 ?side3 ?side4 A30.out).mono ?_
   (case side1=>repeat (first|exact (by repeat (first|(with_reducible exact HR766_0.out)|(with_reducible refine Kd.bUz ?_ _)|(with_reducible refine Kd.bvz ?_ _)|(with_reducible refine Kd.bZz ?_)|exact HR766_0.out))|(with_reducible refine Kd.bUz ?_ _)|(with_reducible refine Kd.bvz ?_ _)|(with_reducible refine Kd.bZz ?_)))
   (case side2=>exact HC766_0.out)
   (case side3=>repeat (first|exact (Kd.aLz HR1.out HB.out)|(with_reducible refine Kd.bUz ?_ _)|(with_reducible refine Kd.bvz ?_ _)|(with_reducible refine Kd.bZz ?_)))
   (case side4=>exact HC1.out)
   rintro e w34 ⟨v769,rfl,ho0,hb⟩;have HS5_:=(hb.cell (World.block_lt_of_cell? _ _ (hHeld.2.2.2.2.2))).trans (hHeld.2.2.2.2.2);refine ⟨_,rfl,?_⟩;have n_:=And.intro (Aside0.mk (Kd.doz (xd_ HO_8.out) (Kd.cbz ho0) hb)) (And.intro (Aside0.mk (Kd.S_elder' (xd_ HO_10.out) (Kd.cbz ho0) hb)) (And.intro (Aside0.mk (Kd.doz (by (with_reducible repeat (first|apply Kd.dcz|apply Kd.ddz|apply Kd.djz));exact HL766_0.out) (Kd.cbz ho0) hb)) (And.intro (Aside0.mk (Kd.bKz ho0 (aez bl_))) (And.intro (bb_ BK752 hb) (And.intro (bb_ BK761 hb) (And.intro (Aside0.mk (Kd.aLz (by repeat (first|(with_reducible exact HR766_0.out)|(with_reducible refine Kd.bUz ?_ _)|(with_reducible refine Kd.bvz ?_ _)|(with_reducible refine Kd.bZz ?_)|exact HR766_0.out)) hb)) (hs_ HB hb)))))));clear HO_8 HO_10 HL766_0 BK752 BK761 HR766_0 HB;obtain ⟨HO_8,HO_10,HL766_0,HO770,BK752,BK761,HR766_0,HB⟩:=n_
   (try clear hb)
   (try clear hb2)
   (try clear hk)
   (try clear hi)
   (try clear ho0)
   refine hK.out _ _ ⟨(acz BK761.out 0).trans rfl,(acz BK761.out 1).trans rfl,(acz BK761.out 2).trans rfl,(acz BK761.out 3).trans rfl,(acz BK761.out 4).trans rfl,HS5_⟩ (fun hHeld=> ?_);clear hK K;refine norm_ (a':= ?_) ?_ ?_;rotate_left
   ·show Act.put _ (some 57) _=_;simp only [Act.put,List.setIfInBounds_toArray,List.set_cons_zero,List.set_cons_succ,i64_w,i32_w];rfl
   refine pv_ 10 47 2047 HT_ ?_;refine pv_ 11 58 4095 HT_ ?_;refine pv_ 12 59 8191 HT_ ?_;refine pv_ 13 12 16383 HT_ ?_;refine pv_ 14 13 32767 HT_ ?_;refine done_ (cRz HT_.out kr_) ?_;obtain ⟨Ao36,co36,eo36⟩:=Kd.bgz HO770.out;subst eo36
   try go_wp2_with (first|((with_reducible refine aoz (b:= .append) (xs:= #[.tmp 60, .tmp 62]) rfl ?_);(try (refine a4z (by rfl) ?_;dsimp only));at_builtin;refine Kd.bRz (Kd.slice 5 (Kd.int .u8)) (w0:=w) w.heap.size rfl (.tmp 60) (.tmp 62) 24 34 (.slice none 0 0) 24 rfl Tryz.underlying24 info34 rfl (by decide) (by omega) u10 x10_2 t767 [.slice Ao36 t767.length co36] (fun _=>True) (fun k_=>some k_=(.slice Ao36 t767.length co36:Value).ownBlock) rfl rfl ?aP (fun k_ hk_=>((Kd.aTz (ok':=fun k_=>((fun _=>True)) k_/\some k_≠(u10:Value).ownBlock) (Kd.bsz (HO770.out) (Kd.bGz HO_10.out) (by decide)) (fun k_ hk=>⟨trivial,hk.2⟩))).1 k_ hk_.symm) ?aF ?aO ?aB ?aS ?aL ?_;(case aP=>exact Kd.M_row (Kd.aTz (Kd.b1z rfl (Kd.aTz (ok':=fun k_=>((fun _=>True)) k_/\some k_≠(u10:Value).ownBlock) (Kd.bsz (HO770.out) (Kd.bGz HO_10.out) (by decide)) (fun k_ hk=>⟨trivial,hk.2⟩))) (fun _ h_=>h_)));(case aB=>exact bl_);(case aF=>exact (fun _ _=>trivial));(case aO=>exact (sm_ HO_10));(case aS=>exact (aez bl_));(case aL=>have:=LMc31.out;omega);intro v772 w35 ho hb hg hat;rw [<-Ny771.out] at ho;have n_:=And.intro (Aside0.mk (Kd.c3z (ok:=(fun k_=>some k_≠(.slice Ao36 t767.length co36:Value).ownBlock/\k_≠gb752/\k_≠gb761)) (vm_ HO_8) hg hat)) (And.intro (Aside0.mk (blk_grown (g:=gb752) (o:= .cells #[.int .i64 a0_0, .int .i64 a0_1, .int .i64 a0_2] 23 (0,0)) bk_ hg (Kd.S_ne HO_10.out BK752.out (by decide)))) (And.intro (Aside0.mk (blk_grown (g:=gb761) (o:= .cells #[.string t755, .int .i64 t756, .int .u32 t757, .int .u8 t758, .int .i64 t759] 79 (0,0)) bk_ hg (Kd.S_ne HO_10.out BK761.out (by decide)))) (And.intro (Aside0.mk (Kd.c3z (ok:=(fun k_=>some k_≠(.slice Ao36 t767.length co36:Value).ownBlock/\k_≠gb752/\k_≠gb761)) (by (with_reducible repeat (first|apply Kd.dcz|apply Kd.ddz|apply Kd.djz));exact Kd.diz HL766_0.out (fun _ hk=>⟨⟨hk.2,⟨hk.1.2.1,hk.1.2.2⟩⟩,hk.1.1⟩)) hg hat)) (And.intro (Aside0.mk (hb)) (Aside0.mk (ho))))));clear HO_8 BK752 BK761 HL766_0 HB HO_10 HO770;obtain ⟨HO_8,BK752,BK761,HL766_0,HB,HO773⟩:=n_;clear ho hb hg hat))
   go_roundg k2
   case measure=>have:=HJ2.out;have:=HK2.out;omega
   case rel=>exact ⟨(y771),(wrap64 (x11_2+1)),sd_,H',⟨by have:=HJ2.out;have:=HK2.out;omega⟩,⟨vm_ HO_8⟩,⟨xd_ HO773.out⟩,⟨bk_⟩,⟨bk_⟩,⟨bl_⟩⟩
def aXz.l0:Nat->List (List Int)->List (List Int)->Int->Option (Bool)
 |0,_,_,_=>none
 |k+1,x0,x1,x5=>if x5<(x0.length:Int) then (if 0<=x5 then (if x5<(x1.length:Int) then (if (strOfNums (x0.getD x5.toNat [])).toList=(strOfNums (x1.getD x5.toNat [])).toList then (aXz.l0 k x0 x1 (wrap64 (x5+1))) else (some false)) else (none)) else (none)) else (some true)
def aXz.f (k:Nat) (l0:List (List Int)) (l1:List (List Int)):Option (Bool):=if (l0.length:Int)=(l1.length:Int) then (aXz.l0 k l0 l1 0) else (some false)
theorem aXz.calls (k : Nat) (A0 : Option Addr) (c0 : Nat) (l0 : List (List Int)) (A1 : Option Addr) (c1 : Nat) (l1 : List (List Int)) (r : Bool) (w : World) (hr0 : Kd.C (Kd.slice 5 (Kd.int .u8)) w A0 l0.length l0) (hc0 : l0.length <= c0) (hr1 : Kd.C (Kd.slice 5 (Kd.int .u8)) w A1 l1.length l1) (hc1 : l1.length <= c1) (h : aXz.f k l0 l1 = some r) :
  Calls Tryz.prog 21 #[.slice A0 l0.length c0, .slice A1 l1.length c1] w fun e w'=>e= .returned (.bool r)/\Drawn0 w w':=by
 have HR0:=Aside0.mk hr0;have HR1:=Aside0.mk hr1;unfold aXz.f at h;by_cases hl:(l0.length:Int)=(l1.length:Int)
 case neg=>
  rw [if_neg hl] at h;obtain rfl:=Option.some.inj h;generalize l0.length=n0 at hl|-;generalize l1.length=n1 at hl|-;have b1:((n0:Int) !=(n1:Int))=true:=bne_iff_ne.2 hl;clear hl h hr0 hr1 hc0 hc1;go_enter Tryz.func21,Tryz.ntmps21;go_wp2;go_ret;exact ⟨rfl,Drawn0.refl _⟩
 rw [if_pos hl] at h;obtain ⟨n,hn⟩: ∃n,l0.length=n:=⟨_,rfl⟩;have hn1:l1.length=n:=by omega
 have HN0:=Aside0.mk hn;have HN1:=Aside0.mk hn1;have HH:=Aside0.mk h;have HM:=Aside0.mk (show n<=9223372036854775807 from hn▸hr0.2.1);rw [hn] at HR0|-;rw [hn1] at HR1|-;have b1:((n:Int) !=(n:Int))=false:=by simp
 clear hl h hr0 hr1 hc0 hc1 hn hn1;go_enter Tryz.func21,Tryz.ntmps21;go_wp2
 go_loopw [5] (fun iv wr=> ∃i kk m:Nat,i<=n/\iv= .int .i64 (i:Int)/\wr=w.drewN m/\Aside0 (aXz.l0 kk l0 l1 (i:Int)=some r)) (fun iv _=>n - (intOf iv).toNat)
 case atStart=>exact ⟨0,k,0,Nat.zero_le _,rfl,rfl,HH⟩
 clear HH b1;obtain ⟨i,kk,m,hi,rfl,hwm,HH⟩:=hrel;have HWM:=Aside0.mk hwm;have HRA:=Aside0.mk (show Kd.C (Kd.slice 5 (Kd.int .u8)) wr A0 n l0 by rw [hwm];exact Kd.bvz HR0.out m);have HRB:=Aside0.mk (show Kd.C (Kd.slice 5 (Kd.int .u8)) wr A1 n l1 by rw [hwm];exact Kd.bvz HR1.out m);clear hwm;obtain ⟨wq,rfl⟩: ∃wq,wq=wr:=⟨_,rfl⟩;have h:=HH.out;rcases kk with _|kk
 ·exact absurd h (by simp [aXz.l0])
 unfold aXz.l0 at h;by_cases hlt:i<n
 ·obtain ⟨x,hx⟩: ∃x,l0[i]?=some x:=⟨_,List.getElem?_eq_getElem (by have:=HN0.out;omega)⟩;obtain ⟨y,hy⟩: ∃y,l1[i]?=some y:=⟨_,List.getElem?_eq_getElem (by have:=HN1.out;omega)⟩;rw [if_pos (by rw [HN0.out];omega),if_pos (by omega),if_pos (by rw [HN1.out];omega),Int.toNat_natCast,List.getD_eq_getElem?_getD,hx,List.getD_eq_getElem?_getD,hy] at h;obtain ⟨ad,A',ca,rfl,hcx, -,hX⟩:=b5z (HN0.out.symm▸HRA.out) i x hx;obtain ⟨bd,B',cb,rfl,hcy, -,hY⟩:=b5z (HN1.out.symm▸HRB.out) i y hy;have hcv1:=Kd.C_string (P:=Tryz.prog) (A:=A') (c:=ca) Tryz.underlying34 Tryz.underlying5 Tryz.underlying9 (Kd.bvz hX 1);have hcv2:=Kd.C_string (P:=Tryz.prog) (A:=B') (c:=cb) Tryz.underlying34 Tryz.underlying5 Tryz.underlying9 (Kd.bvz hY 1);simp only [Option.getD_some] at h;generalize x.length=xl at hcx hcv1;generalize y.length=yl at hcy hcv2;have i1:(0:Int)<=(i:Int):=by omega
  have i2:(i:Int)<(n:Int):=by omega
  have hcv1':=hcv1;have hcv2':=hcv2;rw [show wq.drewN 1=wq.drew from rfl] at hcv1' hcv2';clear hx hy hX hY hcv1 hcv2;have HI2:=Aside0.mk (show wrap64 ((i:Int)+1)=((i+1:Nat):Int) by have:=HM.out;unfold wrap64;omega);by_cases heq:(strOfNums x).toList=(strOfNums y).toList
  ·rw [if_pos heq] at h;have e1:((strOfNums x).toList==(strOfNums y).toList)=true:=beq_iff_eq.2 heq;have e2:((strOfNums x).toList !=(strOfNums y).toList)=false:=bne_eq_false_iff_eq.2 heq;rw [HI2.out] at h;have HH2:=Aside0.mk h;clear heq h;generalize strOfNums x=sx at hcv1' e1 e2;generalize strOfNums y=sy at hcv2' e1 e2
   go_wp2_with fail
   refine bPz (n:=11) (S:=fun w'=>w'.cell? (ad.add i)=some (.slice A' xl ca)/\w'.cell? (bd.add i)=some (.slice B' yl cb)) (ds:= []) (bA 11 0) kr_ rfl rfl ⟨hcx,hcy⟩ (fun hHeld=> ?_);refine pu_ 0 17 1 ?_;refine pu_ 1 18 3 ?_;refine pu_ 2 19 7 ?_;refine pu_ 5 22 39 ?_;refine pu_ 6 23 103 ?_;refine pu_ 7 24 231 ?_;refine tk_ 3 20 239 hHeld ?_;refine tk_ 8 25 495 hHeld ?_;refine join_ (σ:=Unit) 1 (bA 11 1023) (fun _=> [(21, .string sx),(26, .string sy)]) (fun _ w'=>w'=wq.drew) ?_ ?_;rotate_left
   ·intro hCont;refine two_ (i:=4) (j:=9) (Ni:=some 21) (Nj:=some 26) (bA 11 511) (bA 11 1007) rfl rfl rfl rfl kr_ (by decide) (by decide) (fun K hK=> ?_) (fun K hK=> ?_)
    ·skip
     refine ccz (w1:= ?_) (v:= ?_) (by rfl) rfl ?_ ?_;rotate_left 2
     ·go_simp;constructor
      ·rfl
      ·rfl
     refine hK.out _ _ ⟨hcx,hcy⟩ (fun hHeld=> ?_);clear hK K;refine norm_ (a':= ?_) ?_ ?_;rotate_left
     ·show Act.put _ (some 21) _=_;simp only [Act.put,List.setIfInBounds_toArray,List.set_cons_zero,List.set_cons_succ,i64_w,i32_w];rfl
     refine one_ (i:=9) (N:=some 26) (bA 11 1023) rfl rfl kr_ (by decide) (fun K hK=> ?_);refine ccz (w1:= ?_) (v:= ?_) (by rfl) rfl ?_ ?_;rotate_left 2
     ·go_simp;constructor
      ·rfl
      ·rfl
     refine hK.out _ _ ⟨hcx,hcy⟩ (fun hHeld=> ?_);clear hK K;refine norm_ (a':= ?_) ?_ ?_;rotate_left
     ·show Act.put _ (some 26) _=_;simp only [Act.put,List.setIfInBounds_toArray,List.set_cons_zero,List.set_cons_succ,i64_w,i32_w];rfl
     exact norm_ (by simp only [putAll,Act.put,List.setIfInBounds_toArray,List.set_cons_zero,List.set_cons_succ]) (hCont () _ rfl)
    ·skip
     refine ccz (w1:= ?_) (v:= ?_) (by rfl) rfl ?_ ?_;rotate_left 2
     ·go_simp;constructor
      ·rfl
      ·rfl
     refine hK.out _ _ ⟨hcx,hcy⟩ (fun hHeld=> ?_);clear hK K;refine norm_ (a':= ?_) ?_ ?_;rotate_left
     ·show Act.put _ (some 26) _=_;simp only [Act.put,List.setIfInBounds_toArray,List.set_cons_zero,List.set_cons_succ,i64_w,i32_w];rfl
     refine one_ (i:=4) (N:=some 21) (bA 11 1023) rfl rfl kr_ (by decide) (fun K hK=> ?_);refine ccz (w1:= ?_) (v:= ?_) (by rfl) rfl ?_ ?_;rotate_left 2
     ·go_simp;constructor
      ·rfl
      ·rfl
     refine hK.out _ _ ⟨hcx,hcy⟩ (fun hHeld=> ?_);clear hK K;refine norm_ (a':= ?_) ?_ ?_;rotate_left
     ·show Act.put _ (some 21) _=_;simp only [Act.put,List.setIfInBounds_toArray,List.set_cons_zero,List.set_cons_succ,i64_w,i32_w];rfl
     exact norm_ (by simp only [putAll,Act.put,List.setIfInBounds_toArray,List.set_cons_zero,List.set_cons_succ]) (hCont () _ rfl)
   rintro _ w' rfl;have hHeld:wq.drew.cell? (ad.add i)=some (.slice A' xl ca)/\wq.drew.cell? (bd.add i)=some (.slice B' yl cb):=⟨hcx,hcy⟩;refine norm_ (a':= ?_) ?_ ?_;rotate_left
   ·simp only [putAll,Act.put,List.setIfInBounds_toArray,List.set_cons_zero,List.set_cons_succ];rfl
   refine pu_ 10 27 2047 ?_;refine done_ kr_ ?_;go_wp2;go_roundw
   case rel=>exact ⟨i+1,kk,m+1,by omega,by rw [HI2.out],by rw [HWM.out];rfl,HH2⟩
   case measure=>rw [HI2.out];simp [intOf];omega
  ·rw [if_neg heq] at h;obtain rfl:=Option.some.inj h;have e1:((strOfNums x).toList==(strOfNums y).toList)=false:=beq_eq_false_iff_ne.2 heq;have e2:((strOfNums x).toList !=(strOfNums y).toList)=true:=bne_iff_ne.2 heq;clear heq h;generalize strOfNums x=sx at hcv1' e1 e2;generalize strOfNums y=sy at hcv2' e1 e2
   go_wp2_with fail
   refine bPz (n:=11) (S:=fun w'=>w'.cell? (ad.add i)=some (.slice A' xl ca)/\w'.cell? (bd.add i)=some (.slice B' yl cb)) (ds:= []) (bA 11 0) kr_ rfl rfl ⟨hcx,hcy⟩ (fun hHeld=> ?_);refine pu_ 0 17 1 ?_;refine pu_ 1 18 3 ?_;refine pu_ 2 19 7 ?_;refine pu_ 5 22 39 ?_;refine pu_ 6 23 103 ?_;refine pu_ 7 24 231 ?_;refine tk_ 3 20 239 hHeld ?_;refine tk_ 8 25 495 hHeld ?_;refine join_ (σ:=Unit) 1 (bA 11 1023) (fun _=> [(21, .string sx),(26, .string sy)]) (fun _ w'=>w'=wq.drew) ?_ ?_;rotate_left
   ·intro hCont;refine two_ (i:=4) (j:=9) (Ni:=some 21) (Nj:=some 26) (bA 11 511) (bA 11 1007) rfl rfl rfl rfl kr_ (by decide) (by decide) (fun K hK=> ?_) (fun K hK=> ?_)
    ·skip
     refine ccz (w1:= ?_) (v:= ?_) (by rfl) rfl ?_ ?_;rotate_left 2
     ·go_simp;constructor
      ·rfl
      ·rfl
     refine hK.out _ _ ⟨hcx,hcy⟩ (fun hHeld=> ?_);clear hK K;refine norm_ (a':= ?_) ?_ ?_;rotate_left
     ·show Act.put _ (some 21) _=_;simp only [Act.put,List.setIfInBounds_toArray,List.set_cons_zero,List.set_cons_succ,i64_w,i32_w];rfl
     refine one_ (i:=9) (N:=some 26) (bA 11 1023) rfl rfl kr_ (by decide) (fun K hK=> ?_);refine ccz (w1:= ?_) (v:= ?_) (by rfl) rfl ?_ ?_;rotate_left 2
     ·go_simp;constructor
      ·rfl
      ·rfl
     refine hK.out _ _ ⟨hcx,hcy⟩ (fun hHeld=> ?_);clear hK K;refine norm_ (a':= ?_) ?_ ?_;rotate_left
     ·show Act.put _ (some 26) _=_;simp only [Act.put,List.setIfInBounds_toArray,List.set_cons_zero,List.set_cons_succ,i64_w,i32_w];rfl
     exact norm_ (by simp only [putAll,Act.put,List.setIfInBounds_toArray,List.set_cons_zero,List.set_cons_succ]) (hCont () _ rfl)
    ·skip
     refine ccz (w1:= ?_) (v:= ?_) (by rfl) rfl ?_ ?_;rotate_left 2
     ·go_simp;constructor
      ·rfl
      ·rfl
     refine hK.out _ _ ⟨hcx,hcy⟩ (fun hHeld=> ?_);clear hK K;refine norm_ (a':= ?_) ?_ ?_;rotate_left
     ·show Act.put _ (some 26) _=_;simp only [Act.put,List.setIfInBounds_toArray,List.set_cons_zero,List.set_cons_succ,i64_w,i32_w];rfl
     refine one_ (i:=4) (N:=some 21) (bA 11 1023) rfl rfl kr_ (by decide) (fun K hK=> ?_);refine ccz (w1:= ?_) (v:= ?_) (by rfl) rfl ?_ ?_;rotate_left 2
     ·go_simp;constructor
      ·rfl
      ·rfl
     refine hK.out _ _ ⟨hcx,hcy⟩ (fun hHeld=> ?_);clear hK K;refine norm_ (a':= ?_) ?_ ?_;rotate_left
     ·show Act.put _ (some 21) _=_;simp only [Act.put,List.setIfInBounds_toArray,List.set_cons_zero,List.set_cons_succ,i64_w,i32_w];rfl
     exact norm_ (by simp only [putAll,Act.put,List.setIfInBounds_toArray,List.set_cons_zero,List.set_cons_succ]) (hCont () _ rfl)
   rintro _ w' rfl;have hHeld:wq.drew.cell? (ad.add i)=some (.slice A' xl ca)/\wq.drew.cell? (bd.add i)=some (.slice B' yl cb):=⟨hcx,hcy⟩;refine norm_ (a':= ?_) ?_ ?_;rotate_left
   ·simp only [putAll,Act.put,List.setIfInBounds_toArray,List.set_cons_zero,List.set_cons_succ];rfl
   refine pu_ 10 27 2047 ?_;refine done_ kr_ ?_;go_wp2;go_ret;exact ⟨rfl,by rw [HWM.out];exact ⟨m+1,rfl⟩⟩
 ·rw [if_neg (by rw [HN0.out];omega)] at h;obtain rfl:=Option.some.inj h;clear h;go_wp2;go_ret;exact ⟨rfl,m,HWM.out⟩
def aAz.j0:Nat->List (List Int)->Bool->Int->Int->Int->Option (Bool)
 |0,_,_,_,_,_=>none
 |k+1,x1,x19,x775000,x775001,x775002=>if x19=true then (some false) else (if 0<=x775001 then (if x775001<=(x1.length:Int) then ((apz.f k x775000 x775001 x775002 (x1.take (x775001:Int).toNat)).bind fun bt780=>(if bt780.2=0 then ((aXz.f k bt780.1 (x1.drop (x775001:Int).toNat)).bind fun t788=>(some t788)) else (some false))) else (none)) else (none))
def aAz.f (k:Nat) (a0_0:Int) (a0_1:Int) (a0_2:Int) (l1:List (List Int)):Option (Bool):=(biz.f a0_0 a0_1 a0_2).bind fun t775=>(if t775=true then (aAz.j0 k l1 ((l1.length:Int) !=(wrap64 (a0_1+a0_2))) a0_0 a0_1 a0_2) else (aAz.j0 k l1 true a0_0 a0_1 a0_2))
def aAz.T3:Bool×List (List Nat×List Nat):=(true, [([], []),([], []),([], []),([2], [2]),([1,3], [1,3]),([0,4], [0,4]),([5], [5]),([6], [6]),([6], [6]),([7,5,0,1,2,3,4,5,6,7], [7]),([8,9,0,1,2,3,4,5,6,7,8,9], [8])])
def aAz.B3:List Nat:= [0,0,0,4,14,31,63,127,127,255,1023]
theorem aAz.tab3:rtab .any (opsOf Tryz.f23 3)=aAz.T3:=by kernel_rfl
theorem aAz.bits3:waitsOk aAz.T3.2 aAz.B3=true:=by kernel_rfl
theorem aAz.calls (k : Nat) (a0_0 : Int) (a0_1 : Int) (a0_2 : Int) (A1 : Option Addr) (c1 : Nat) (l1 : List (List Int)) (r : Bool) (w : World) (hr1 : Kd.C (Kd.slice 5 (Kd.int .u8)) w A1 l1.length l1) (hc1 : l1.length <= c1) (h : aAz.f k a0_0 a0_1 a0_2 l1 = some r) :
  Calls Tryz.prog 23 #[.agg #[.int .i64 a0_0, .int .i64 a0_1, .int .i64 a0_2], .slice A1 l1.length c1] w fun e w'=>e= .returned (.bool r)/\Below w.heap.size w w':=by
 have hu23:=Tryz.underlying23;have HR1:=Aside0.mk hr1;have HC1:=Aside0.mk hc1;clear hr1 hc1;have HB:=Aside0.mk (Below.refl w.heap.size w);have H:=h;clear h;unfold aAz.f at H;have HC3:=Aside0.mk H;clear H;go_enter Tryz.func23,Tryz.ntmps23
 go_upto_region 1 with (first|((with_reducible refine a8z (N:=2) rfl ?_);(try (refine a4z (by rfl) ?_;dsimp only));refine bx_ 2 #[.int .i64 a0_0, .int .i64 a0_1, .int .i64 a0_2] 23 ?_;intro gb774 hg w4 hbox hb;have n_:=And.intro (hs_ HB hb) (And.intro (Aside0.mk (hbox)) (And.intro (ag_ HB gb774) (ag_ HB gb774)));clear HB;obtain ⟨HB,BK774,GW774,GE774⟩:=n_;clear hb hbox hg))
 (try simp only [Act.put,List.setIfInBounds_toArray,List.set_cons_zero,List.set_cons_succ])
 go_cut [19] (fun v19 wc=> ∃(kq:Nat) (x19_2:Bool),v19= .bool x19_2/\Aside0 (aAz.j0 kq l1 x19_2 a0_0 a0_1 a0_2=some r)/\Aside0 (kq<=k)/\Aside0 (wc.heap[gb774]?=some (.cells #[.int .i64 a0_0, .int .i64 a0_1, .int .i64 a0_2] 23 (0,0)))/\Aside0 (Below w.heap.size w wc))
 case first=>
  have H:=HC3.out;clear HC3;obtain ⟨t775,A5,H⟩:=ob_ H
  (try dsimp only at H)
  by_cases c6:t775=true
  ·subst c6;rw [if_pos rfl] at H;have H':=Aside0.mk H;clear H;obtain ⟨hcz7_0,hfz7_0,hcz7_1,hfz7_1,hcz7_2,hfz7_2⟩:=bc3_ BK774.out
   go_wp2_with (first|((with_reducible refine abz (f:=48) rfl ?_);refine gl_ (some 8) Tryz.func48 #[.agg #[.int .i64 a0_0, .int .i64 a0_1, .int .i64 a0_2]] ?_;(with_reducible refine (biz.calls a0_0 a0_1 a0_2 true _ A5.out).mono ?_);rintro e w8 ⟨rfl,hb⟩;refine ⟨_,rfl,?_⟩;have n_:=And.intro (bb_ BK774 hb) (hs_ HB hb);clear BK774 HB;obtain ⟨BK774,HB⟩:=n_;(try clear hb);obtain ⟨hcz9_0,hfz9_0,hcz9_1,hfz9_1,hcz9_2,hfz9_2⟩:=bc3_ BK774.out))
   go_meet
   case rel=>exact ⟨_,(((l1.length:Int) !=(wrap64 (a0_1+a0_2)))),sd_,H',⟨by first|omega|exact Nat.le_refl _⟩,⟨bk_⟩,⟨bl_⟩⟩
  ·replace c6:=Bool.eq_false_iff.mpr c6;subst c6;rw [if_neg (show¬(false=true) by decide)] at H;have H':=Aside0.mk H;clear H;obtain ⟨hcz10_0,hfz10_0,hcz10_1,hfz10_1,hcz10_2,hfz10_2⟩:=bc3_ BK774.out
   go_wp2_with (first|((with_reducible refine abz (f:=48) rfl ?_);refine gl_ (some 8) Tryz.func48 #[.agg #[.int .i64 a0_0, .int .i64 a0_1, .int .i64 a0_2]] ?_;(with_reducible refine (biz.calls a0_0 a0_1 a0_2 false _ A5.out).mono ?_);rintro e w11 ⟨rfl,hb⟩;refine ⟨_,rfl,?_⟩;have n_:=And.intro (bb_ BK774 hb) (hs_ HB hb);clear BK774 HB;obtain ⟨BK774,HB⟩:=n_;(try clear hb)))
   go_meet
   case rel=>exact ⟨_,(true),sd_,H',⟨by first|omega|exact Nat.le_refl _⟩,⟨bk_⟩,⟨bl_⟩⟩
 case rest=>
  clear HC3
  try clear c1
  try clear c2
  try clear p2
  try clear c4
  try clear c6
  try clear p6
  try clear hcz10_0
  try clear hcz10_1
  try clear hcz10_2
  try clear hcz7_0
  try clear hcz7_1
  try clear hcz7_2
  try clear hcz9_0
  try clear hcz9_1
  try clear hcz9_2
  try clear hfz10_0
  try clear hfz10_1
  try clear hfz10_2
  try clear hfz7_0
  try clear hfz7_1
  try clear hfz7_2
  try clear hfz9_0
  try clear hfz9_1
  try clear hfz9_2
  obtain ⟨kq,x19_2,rfl,HA,HJ2,BK774,HB⟩:=hcut;rcases kq with _|kj2
  ·exact absurd HA.out (by simp [aAz.j0])
  have H:=HA.out;clear HA;simp only [aAz.j0] at H;by_cases c12:x19_2=true
  ·subst c12;rw [if_pos rfl] at H;obtain rfl:=Option.some.inj H;go_wp2;go_ret;exact ⟨er_,bl_⟩
  ·replace c12:=Bool.eq_false_iff.mpr c12;subst c12;rw [if_neg (show¬(false=true) by decide)] at H;by_cases c13:0<=a0_1
   rotate_left
   ·rw [if_neg c13] at H;exact absurd H (by simp)
   rw [if_pos c13] at H;have c13b0:=eq_true c13;have c13b1:=decide_eq_true c13;clear c13;by_cases c14:a0_1<=(l1.length:Int)
   rotate_left
   ·rw [if_neg c14] at H;exact absurd H (by simp)
   rw [if_pos c14] at H;have c14b0:=eq_true c14;have c14b1:=decide_eq_true c14;clear c14;obtain ⟨y776,hy776⟩: ∃y_:List (List Int),y_=(l1.take (a0_1:Int).toNat):=⟨_,rfl⟩
   first|rw [Option.bind_some, <-hy776] at H|rw [<-hy776] at H
   (try dsimp only at H)
   have Ny776:=Aside0.mk hy776;clear hy776;obtain ⟨⟨t780,t783⟩,A15,H⟩:=ob_ H
   (try dsimp only at H)
   by_cases c16:t783=0
   rotate_left
   ·rw [if_neg c16] at H;have c16b0:(t783==0)=false:=beq_eq_false_iff_ne.mpr c16;have c16b1:(t783 !=0)=true:=bne_iff_ne.mpr c16;obtain rfl:=Option.some.inj H
    try go_wp2
    have n_:=And.intro (Aside0.mk (cmz BK774.out)) (Aside0.mk (bWz HB.out));clear BK774 HB;obtain ⟨BK774,HB⟩:=n_;have q27:(a0_1:Int)<=((l1.length:Int):Int):=of_decide_eq_true as_;obtain ⟨i027,hi027,_,hsz27,_⟩:=info_parts info34;have hroom27:l1.length<=c1:=HC1.out;have hC27:Kd.C (Kd.slice 5 (Kd.int .u8)) _ A1 l1.length l1:=HR1.out;have hcut27:=cut_to (P:=Tryz.prog) 24 34 .i64 Tryz.underlying24 hi027 A1 l1.length c1 a0_1 (of_decide_eq_true as_) q27 hroom27;have hr27:=Kd.C_take (m:=(a0_1:Int).toNat) hC27 (by omega);have hy27:y776.length=(a0_1:Int).toNat:=(by rw [Ny776.out,List.length_take];omega);rw [<-Ny776.out] at hr27;rw [<-hy27] at hcut27;have HR779:=Aside0.mk hr27;have HC779:=Aside0.mk (show y776.length<=c1 from by omega);clear hr27 hC27 hroom27 hi027 hsz27;have KY27:=Aside0.mk hy27;clear hy27;replace q27:=eq_true q27;refine bPz (n:=11) (S:=fun w'=>w'.cell? ⟨gb774,0,none⟩=some (.int .i64 a0_0)/\w'.cell? ⟨gb774,1,none⟩=some (.int .i64 a0_1)/\w'.cell? ⟨gb774,2,none⟩=some (.int .i64 a0_2)) (ds:= []) (bA 11 0) kr_ rfl rfl ⟨(acz BK774.out 0).trans rfl,(acz BK774.out 1).trans rfl,(acz BK774.out 2).trans rfl⟩ (fun hHeld=> ?_);refine crz aAz.tab3 aAz.bits3 (fun HT_ HW_=> ?_)
    generalize wc.drew=w26 at BK774 HB HR779 hHeld|-;refine pv_ 1 22 2 HT_ ?_;refine pv_ 2 23 6 HT_ ?_;refine tw_ 0 21 7 HT_ HW_ hHeld ?_;refine tw_ 3 24 15 HT_ HW_ hHeld ?_;refine pv_ 4 25 31 HT_ ?_;refine one_ (i:=5) (N:=some 26) (bA 11 63) rfl rfl (cqz HT_.out kr_) (by decide) (fun K hK=> ?_);refine goes_ Tryz.func20 kr_ rfl #[.agg #[.int .i64 a0_0, .int .i64 a0_1, .int .i64 a0_2], .slice A1 y776.length c1] (by rfl) rfl rfl ar_ ?_
    with_reducible refine (apz.calls kj2 a0_0 a0_1 a0_2 _ _ y776 t780 t783 _ ?side1 ?side2 A15.out).mono ?_
    (case side1=>repeat (first|exact (Kd.aLz HR779.out HB.out)|(with_reducible refine Kd.bUz ?_ _)|(with_reducible refine Kd.bvz ?_ _)|(with_reducible refine Kd.bZz ?_)))
    (case side2=>exact HC779.out)
    rintro e w28 ⟨v781,rfl,ho0,hb⟩;refine ⟨_,rfl,?_⟩;have n_:=And.intro (Aside0.mk (Kd.cwz ho0 (aez bl_))) (And.intro (bb_ BK774 hb) (hs_ HB hb));clear BK774 HB;obtain ⟨HO782,BK774,HB⟩:=n_
    (try clear hb)
    (try clear hb2)
    (try clear hk)
    (try clear hi)
    (try clear ho0)
    refine hK.out _ _ ⟨(acz BK774.out 0).trans rfl,(acz BK774.out 1).trans rfl,(acz BK774.out 2).trans rfl⟩ (fun hHeld=> ?_);clear hK K;refine norm_ (a':= ?_) ?_ ?_;rotate_left
    ·show Act.put _ (some 26) _=_;simp only [Act.put,List.setIfInBounds_toArray,List.set_cons_zero,List.set_cons_succ,i64_w,i32_w];rfl
    refine pv_ 6 20 127 HT_ ?_;refine pv_ 7 27 255 HT_ ?_;refine pv_ 8 28 511 HT_ ?_;refine pv_ 9 5 1023 HT_ ?_;refine pv_ 10 6 2047 HT_ ?_;refine done_ (cRz HT_.out kr_) ?_
    try go_wp2
    go_ret;exact ⟨er_,bl_⟩
   rw [if_pos c16] at H;have c16b0:(t783==0)=true:=beq_iff_eq.mpr c16;have c16b1:(t783 !=0)=false:=bne_eq_false_iff_eq.mpr c16;clear c16;have c17b0:=eq_true (of_decide_eq_true as_:0<=a0_1);have c18b0:=eq_true (of_decide_eq_true as_:a0_1<=(l1.length:Int));obtain ⟨y784,hy784⟩: ∃y_:List (List Int),y_=(l1.drop (a0_1:Int).toNat):=⟨_,rfl⟩
   first|rw [Option.bind_some, <-hy784] at H|rw [<-hy784] at H
   (try dsimp only at H)
   have Ny784:=Aside0.mk hy784;clear hy784;obtain ⟨t788,A19,H⟩:=ob_ H
   (try dsimp only at H)
   obtain rfl:=Option.some.inj H
   try go_wp2
   have n_:=And.intro (Aside0.mk (cmz BK774.out)) (Aside0.mk (bWz HB.out));clear BK774 HB;obtain ⟨BK774,HB⟩:=n_;have q21:(a0_1:Int)<=((l1.length:Int):Int):=of_decide_eq_true as_;obtain ⟨i021,hi021,_,hsz21,_⟩:=info_parts info34;have hroom21:l1.length<=c1:=HC1.out;have hC21:Kd.C (Kd.slice 5 (Kd.int .u8)) _ A1 l1.length l1:=HR1.out;have hcut21:=cut_to (P:=Tryz.prog) 24 34 .i64 Tryz.underlying24 hi021 A1 l1.length c1 a0_1 (of_decide_eq_true as_) q21 hroom21;have hr21:=Kd.C_take (m:=(a0_1:Int).toNat) hC21 (by omega);have hy21:y776.length=(a0_1:Int).toNat:=(by rw [Ny776.out,List.length_take];omega);rw [<-Ny776.out] at hr21;rw [<-hy21] at hcut21;have HR779:=Aside0.mk hr21;have HC779:=Aside0.mk (show y776.length<=c1 from by omega);clear hr21 hC21 hroom21 hi021 hsz21;have KY21:=Aside0.mk hy21;clear hy21;replace q21:=eq_true q21;refine bPz (n:=11) (S:=fun w'=>w'.cell? ⟨gb774,0,none⟩=some (.int .i64 a0_0)/\w'.cell? ⟨gb774,1,none⟩=some (.int .i64 a0_1)/\w'.cell? ⟨gb774,2,none⟩=some (.int .i64 a0_2)) (ds:= []) (bA 11 0) kr_ rfl rfl ⟨(acz BK774.out 0).trans rfl,(acz BK774.out 1).trans rfl,(acz BK774.out 2).trans rfl⟩ (fun hHeld=> ?_);refine crz aAz.tab3 aAz.bits3 (fun HT_ HW_=> ?_)
   generalize wc.drew=w20 at BK774 HB HR779 hHeld|-;refine pv_ 1 22 2 HT_ ?_;refine pv_ 2 23 6 HT_ ?_;refine tw_ 0 21 7 HT_ HW_ hHeld ?_;refine tw_ 3 24 15 HT_ HW_ hHeld ?_;refine pv_ 4 25 31 HT_ ?_;refine one_ (i:=5) (N:=some 26) (bA 11 63) rfl rfl (cqz HT_.out kr_) (by decide) (fun K hK=> ?_);refine goes_ Tryz.func20 kr_ rfl #[.agg #[.int .i64 a0_0, .int .i64 a0_1, .int .i64 a0_2], .slice A1 y776.length c1] (by rfl) rfl rfl ar_ ?_
   with_reducible refine (apz.calls kj2 a0_0 a0_1 a0_2 _ _ y776 t780 t783 _ ?side1 ?side2 A15.out).mono ?_
   (case side1=>repeat (first|exact (Kd.aLz HR779.out HB.out)|(with_reducible refine Kd.bUz ?_ _)|(with_reducible refine Kd.bvz ?_ _)|(with_reducible refine Kd.bZz ?_)))
   (case side2=>exact HC779.out)
   rintro e w22 ⟨v781,rfl,ho0,hb⟩;refine ⟨_,rfl,?_⟩;have n_:=And.intro (Aside0.mk (Kd.cwz ho0 (aez bl_))) (And.intro (bb_ BK774 hb) (hs_ HB hb));clear BK774 HB;obtain ⟨HO782,BK774,HB⟩:=n_
   (try clear hb)
   (try clear hb2)
   (try clear hk)
   (try clear hi)
   (try clear ho0)
   refine hK.out _ _ ⟨(acz BK774.out 0).trans rfl,(acz BK774.out 1).trans rfl,(acz BK774.out 2).trans rfl⟩ (fun hHeld=> ?_);clear hK K;refine norm_ (a':= ?_) ?_ ?_;rotate_left
   ·show Act.put _ (some 26) _=_;simp only [Act.put,List.setIfInBounds_toArray,List.set_cons_zero,List.set_cons_succ,i64_w,i32_w];rfl
   refine pv_ 6 20 127 HT_ ?_;refine pv_ 7 27 255 HT_ ?_;refine pv_ 8 28 511 HT_ ?_;refine pv_ 9 5 1023 HT_ ?_;refine pv_ 10 6 2047 HT_ ?_;refine done_ (cRz HT_.out kr_) ?_;obtain ⟨hcz23_0,hfz23_0,hcz23_1,hfz23_1,hcz23_2,hfz23_2⟩:=bc3_ BK774.out;have q24:(a0_1:Int)<=((l1.length:Int):Int):=of_decide_eq_true as_;obtain ⟨i024,hi024,_,hsz24,_⟩:=info_parts info34;have hroom24:l1.length<=c1:=HC1.out;have hC24:Kd.C (Kd.slice 5 (Kd.int .u8)) _ A1 l1.length l1:=HR1.out;have q024:(0:Int)<=(a0_1:Int):=of_decide_eq_true as_;have hcut24:=ecz (P:=Tryz.prog) 24 34 .i64 Tryz.underlying24 hi024 1 hsz24 A1 l1.length c1 a0_1 q024 q24;have hr24:=Kd.C_drop (m:=(a0_1:Int).toNat) (c:=c1) hC24 (by omega) hroom24;obtain ⟨A24,hA24⟩: ∃Aq_,Aq_=(if c1=(a0_1:Int).toNat then A1 else (A1:Option Addr).map (·.add ((a0_1:Int).toNat*1))):=⟨_,rfl⟩;obtain ⟨c24,hc24⟩: ∃cq_,cq_=c1 - (a0_1:Int).toNat:=⟨_,rfl⟩;have hy24:y784.length=l1.length - (a0_1:Int).toNat:=(by rw [Ny784.out,List.length_drop] <;>omega)
   rw [show (l1).drop (a0_1:Int).toNat=y784 from Ny784.out.symm] at hr24;replace hr24:Kd.C (Kd.slice 5 (Kd.int .u8)) _ A24 y784.length y784:=(by rw [hA24];exact hr24);rw [<-hy24, <-hA24, <-hc24] at hcut24;have HR787:=Aside0.mk hr24;have HC787:=Aside0.mk (show y784.length<=c24 from by rw [hy24,hc24];exact Nat.sub_le_sub_right hroom24 _);clear hr24 hC24 hroom24 hi024 hsz24 hc24;have KY24:=Aside0.mk hy24;have KA24:=Aside0.mk hA24;clear hy24 hA24;replace q24:=eq_true q24;obtain ⟨Ao25,co25,eo25⟩:=Kd.S_slice HO782.out;subst eo25
   try go_wp2_with (first|(go_at_call 21;(with_reducible refine (aXz.calls kj2 _ _ t780 _ _ y784 t788 _ (xd_ (Kd.cOz HO782.out).2.2) ((Kd.cOz HO782.out).2.1) (xd_ (Kd.aLz HR787.out HB.out)) (HC787.out) A19.out).mono ?_);rintro e w' ⟨rfl,⟨nd,rfl⟩⟩))
   go_ret;exact ⟨er_,bl_⟩
mutual
def aKz.l0:Nat->List Int->List (List Int)->Int->Int->Option (List Int×Int)
 |0,_,_,_,_=>none
 |k+1,x4,x14,x15,x16=>if x16<x15 then (if 0<=x16 then (if x16<(x14.length:Int) then (if ((rd_L1 x14 x16).length:Int)=(x4.length:Int) then (aKz.l1 k x4 x14 x15 x16 (rd_L1 x14 x16) ((rd_L1 x14 x16).length:Int) 0) else (some (([] :List Int),1))) else (none)) else (none)) else (some (x4,0))
def aKz.l1:Nat->List Int->List (List Int)->Int->Int->List Int->Int->Int->Option (List Int×Int)
 |0,_,_,_,_,_,_,_=>none
 |k+1,x4,x14,x15,x16,x25,x26,x27=>if x27<x26 then (if 0<=x27 then (if x27<(x25.length:Int) then (if x27<(x4.length:Int) then (aKz.l1 k (x4.set (x27:Int).toNat (Go.bits .xor .u8 (rd x4 x27) (rd x25 x27))) x14 x15 x16 x25 x26 (wrap64 (x27+1))) else (none)) else (none)) else (none)) else (aKz.l0 k x4 x14 x15 (wrap64 (x16+1)))
end
def aKz.f (k:Nat) (l0:List (List Int)):Option (List Int×Int):=if 0<(l0.length:Int) then (if 0<=((rd_L1 l0 0).length:Int) then (if (((rd_L1 l0 0).length:Int):Int).toNat<=281474976710656 then (aKz.l0 k (List.replicate (((rd_L1 l0 0).length:Int):Int).toNat 0) l0 (l0.length:Int) 0) else (none)) else (none)) else (none)
theorem aKz.aUz: ∀k,(∀y0 y1 y2 y3,LeO (aKz.l0 k y0 y1 y2 y3) (aKz.l0 (k+1) y0 y1 y2 y3))/\(∀y0 y1 y2 y3 y4 y5 y6,LeO (aKz.l1 k y0 y1 y2 y3 y4 y5 y6) (aKz.l1 (k+1) y0 y1 y2 y3 y4 y5 y6))
 |0=>⟨fun _ _ _ _ r h=>by simp [aKz.l0] at h,fun _ _ _ _ _ _ _ r h=>by simp [aKz.l1] at h⟩
 |k+1=>by
  obtain ⟨ih0,ih1⟩:=aKz.aUz k;refine ⟨?_,?_⟩
  ·intro y0 y1 y2 y3;unfold aKz.l0
   repeat' with_reducible first|apply ih0|apply ih1|apply LeO.refl|apply LeO.none|apply LeO.ite|refine LeO.bind ?_ fun _=>?_
  ·intro y0 y1 y2 y3 y4 y5 y6;unfold aKz.l1
   repeat' with_reducible first|apply ih0|apply ih1|apply LeO.refl|apply LeO.none|apply LeO.ite|refine LeO.bind ?_ fun _=>?_
theorem aKz.mono: ∀a0 k,LeO (aKz.f k a0) (aKz.f (k+1) a0):=by
 intro a0 k;obtain ⟨ih0,ih1⟩:=aKz.aUz k;unfold aKz.f
 repeat' with_reducible first|apply ih0|apply ih1|apply LeO.refl|apply LeO.none|apply LeO.ite|refine LeO.bind ?_ fun _=>?_
theorem aKz.calls (k : Nat) (A0 : Option Addr) (c0 : Nat) (l0 : List (List Int)) (r1 : List Int) (r2 : Int) (w : World) (hr0 : Kd.C (Kd.slice 5 (Kd.int .u8)) w A0 l0.length l0) (hc0 : l0.length <= c0) (h : aKz.f k l0 = some (r1, r2)) :
  Calls Tryz.prog 82 #[.slice A0 l0.length c0] w fun e w'=> ∃v0_:Value,e= .returned (.tuple #[v0_, .int .i64 r2])/\Kd.R (Kd.int .u8) 5 w' w.heap.size (fun _=>True) v0_ r1/\Below w.heap.size w w':=by
 have HR0:=Aside0.mk hr0;have HC0:=Aside0.mk hc0;clear hr0 hc0;have HB:=Aside0.mk (Below.refl w.heap.size w);have H:=h;clear h;unfold aKz.f at H;by_cases c2:0<(l0.length:Int)
 rotate_left
 ·rw [if_neg c2] at H;exact absurd H (by simp)
 rw [if_pos c2] at H;have c2b0:=decide_eq_true c2;have c2b1:decide (0<l0.length)=true:=decide_eq_true (by omega);clear c2;by_cases c3:0<=((rd_L1 l0 0).length:Int)
 rotate_left
 ·rw [if_neg c3] at H;exact absurd H (by simp)
 rw [if_pos c3] at H;have c3b0:=eq_true c3;have c3b1:=decide_eq_true c3;clear c3;by_cases c4:(((rd_L1 l0 0).length:Int):Int).toNat<=281474976710656
 rotate_left
 ·rw [if_neg c4] at H;exact absurd H (by simp)
 rw [if_pos c4] at H;have c4b0:=eq_true c4;have c4b1:=decide_eq_true c4;clear c4;obtain ⟨y102,hy102⟩: ∃y_:List Int,y_=(List.replicate (((rd_L1 l0 0).length:Int):Int).toNat 0):=⟨_,rfl⟩
 first|rw [Option.bind_some, <-hy102] at H|rw [<-hy102] at H
 (try dsimp only at H)
 have Ny102:=Aside0.mk hy102;clear hy102;have H':=Aside0.mk H;clear H;have p101:0<=(0:Int):=(by omega);have q101:0<(l0.length:Int):=of_decide_eq_true as_;obtain ⟨ad101,A101_0,c101_0,e101,hx101_0,hl101_0,hi101_0⟩:=at_L1 HR0.out 0 p101 q101;cases e101
 have qi101:(0<l0.length)=True:=eq_true (by omega)
 (try rw [show ((0:Int)).toNat=0 from rfl] at hx101_0)
 (try rw [Addr.add_zero'] at hx101_0)
 have HR101_0:=Aside0.mk hi101_0;have HC101_0:=Aside0.mk hl101_0;clear hi101_0 hl101_0;replace p101:=eq_true p101;replace q101:=eq_true q101;go_enter Tryz.func82,Tryz.ntmps82
 go_wp2_with (first|((with_reducible refine a8z (N:=13) rfl ?_);refine Kd.R_make (Kd.int .u8) _ 5 rfl (N:=13) rfl 34 _ _ rfl ((rd_L1 l0 0).length:Int) rfl rfl Tryz.underlying34 (.int .u8 0) 1 info5 rfl (by decide) (by omega) 0 (ok:=fun _=>True) (okp:=fun _=>True) rfl (fun _ hk=>hk) trivial (of_decide_eq_true as_) (Nat.le_trans (Nat.mul_le_mul_right _ (of_decide_eq_true as_:((rd_L1 l0 0).length:Int).toNat<=281474976710656)) (by omega)) (Below.refl _ _) (Nat.le_refl _) ?_;intro v103 w5 ho6 hb hg_ hnew_;clear hg_ hnew_;(first|rw [<-Ny102.out] at ho6|(simp only [Int.reduceToNat] at ho6;rw [<-Ny102.out] at ho6));have n_:=And.intro (Aside0.mk (Kd.bKz ho6 (aez bl_))) (hs_ HB hb);clear HB;obtain ⟨HO104,HB⟩:=n_;clear hb ho6))
 go_loopg [16] k (fun kq v16 w'=> ∃(x4_1:List Int) (x16_1:Int),v16= .int .i64 x16_1/\Aside0 (aKz.l0 kq x4_1 l0 (l0.length:Int) x16_1=some (r1,r2))/\Aside0 (kq<=k)/\Aside0 (Kd.R (Kd.int .u8) 5 w' w.heap.size (fun _=>True) v103 x4_1)/\Aside0 (Below w.heap.size w w'))
 case atStart=>exact ⟨(y102),(0),sd_,H',⟨Nat.le_refl _⟩,⟨xd_ HO104.out⟩,⟨bl_⟩⟩
 clear H'
 try clear c1
 try clear p1
 try clear q1
 try clear hx1
 try clear qi1
 try clear c2
 try clear c2b0
 try clear c2b1
 try clear p2
 try clear c3
 try clear c3b0
 try clear c3b1
 try clear c4
 try clear c4b0
 try clear c4b1
 try clear hx101_0
 try clear p101
 try clear q101
 obtain ⟨x4_1,x16_1,rfl,HA,HK1,HO_4,HB⟩:=hrel;rcases gk with _|k1
 ·exact absurd HA.out (by simp [aKz.l0])
 have H:=HA.out;clear HA;simp only [aKz.l0] at H;by_cases c7:x16_1<(l0.length:Int)
 rotate_left
 ·rw [if_neg c7] at H;have c7b0:=decide_eq_false c7;clear c7;simp only [Option.some.injEq,Prod.mk.injEq] at H;obtain ⟨rfl,rfl⟩:=H;go_wp2;go_ret2;exact ⟨_,er_,xd_ HO_4.out,bl_⟩
 rw [if_pos c7] at H;have c7b0:=decide_eq_true c7;clear c7;by_cases c8:0<=x16_1
 rotate_left
 ·rw [if_neg c8] at H;exact absurd H (by simp)
 rw [if_pos c8] at H;have c8b0:=decide_eq_true c8;clear c8;by_cases c9:x16_1<(l0.length:Int)
 rotate_left
 ·rw [if_neg c9] at H;exact absurd H (by simp)
 rw [if_pos c9] at H;have c9b0:=decide_eq_true c9;clear c9;by_cases c10:((rd_L1 l0 x16_1).length:Int)=(x4_1.length:Int)
 rotate_left
 ·rw [if_neg c10] at H;have c10b0:(((rd_L1 l0 x16_1).length:Int)==(x4_1.length:Int))=false:=beq_eq_false_iff_ne.mpr c10;have c10b1:(((rd_L1 l0 x16_1).length:Int) !=(x4_1.length:Int))=true:=bne_iff_ne.mpr c10
  have c10b2:((rd_L1 l0 x16_1).length==x4_1.length)=false:=by first|simpa using c10|(simp at c10|-;omega)
  simp only [Option.some.injEq,Prod.mk.injEq] at H;obtain ⟨rfl,rfl⟩:=H;have p105:0<=(x16_1:Int):=of_decide_eq_true as_;have q105:x16_1<(l0.length:Int):=of_decide_eq_true as_;obtain ⟨ad105,A105_0,c105_0,e105,hx105_0,hl105_0,hi105_0⟩:=at_L1 HR0.out x16_1 p105 q105;obtain rfl:ad101=ad105:=(by injection e105);replace hx105_0:=(HB.out.cell (World.block_lt_of_cell? w _ hx105_0)).trans hx105_0;have HR105_0:=Aside0.mk hi105_0;have HC105_0:=Aside0.mk hl105_0;clear hi105_0 hl105_0;replace p105:=eq_true p105;replace q105:=eq_true q105;obtain ⟨Ao19,co19,eo19⟩:=Kd.bgz HO_4.out;subst eo19;go_wp2;go_ret2;exact ⟨_,er_,nl_,bl_⟩
 rw [if_pos c10] at H;have c10b0:(((rd_L1 l0 x16_1).length:Int)==(x4_1.length:Int))=true:=beq_iff_eq.mpr c10;have c10b1:(((rd_L1 l0 x16_1).length:Int) !=(x4_1.length:Int))=false:=bne_eq_false_iff_eq.mpr c10
 have c10b2:((rd_L1 l0 x16_1).length==x4_1.length)=true:=by first|simpa using c10|(simp at c10|-;omega)
 clear c10;have H':=Aside0.mk H;clear H;have p105:0<=(x16_1:Int):=of_decide_eq_true as_;have q105:x16_1<(l0.length:Int):=of_decide_eq_true as_;obtain ⟨ad105,A105_0,c105_0,e105,hx105_0,hl105_0,hi105_0⟩:=at_L1 HR0.out x16_1 p105 q105;obtain rfl:ad101=ad105:=(by injection e105);replace hx105_0:=(HB.out.cell (World.block_lt_of_cell? w _ hx105_0)).trans hx105_0;have HR105_0:=Aside0.mk hi105_0;have HC105_0:=Aside0.mk hl105_0;clear hi105_0 hl105_0;replace p105:=eq_true p105;replace q105:=eq_true q105;obtain ⟨Ao11,co11,eo11⟩:=Kd.bgz HO_4.out;subst eo11;go_wp2
 go_loopg [27] k1 (fun kq v27 w'=> ∃(x4_2:List Int) (x27_2:Int),v27= .int .i64 x27_2/\Aside0 (aKz.l1 kq x4_2 l0 (l0.length:Int) x16_1 (rd_L1 l0 x16_1) ((rd_L1 l0 x16_1).length:Int) x27_2=some (r1,r2))/\Aside0 (kq<=k1)/\Aside0 (Kd.R (Kd.int .u8) 5 w' w.heap.size (fun _=>True) (.slice Ao11 x4_1.length co11) x4_2)/\Aside0 (Below w.heap.size w w'))
 case atStart=>exact ⟨(x4_1),(0),sd_,H',⟨Nat.le_refl _⟩,⟨xd_ HO_4.out⟩,⟨bl_⟩⟩
 clear H'
 try clear c1
 try clear p1
 try clear q1
 try clear hx1
 try clear qi1
 try clear c2
 try clear c2b0
 try clear c2b1
 try clear p2
 try clear c3
 try clear c3b0
 try clear c3b1
 try clear c4
 try clear c4b0
 try clear c4b1
 try clear c7
 try clear c7b0
 try clear c8
 try clear c8b0
 try clear c9
 try clear c9b0
 try clear c10
 try clear c10b0
 try clear c10b1
 try clear c10b2
 try clear p10
 try clear q10
 try clear hx10
 try clear qi10
 try clear hx101_0
 try clear hx105_0
 try clear p1
 try clear p101
 try clear p105
 try clear p2
 try clear q1
 try clear q101
 try clear q105
 obtain ⟨x4_2,x27_2,rfl,HA,HK2,HO_4,HB⟩:=hrel;have hl4_2:=(Kd.aRz HO_4.out).1;rw [hl4_2] at HO_4
 (try simp only [hl4_2])
 rcases gk with _|k2
 ·exact absurd HA.out (by simp [aKz.l1])
 have H:=HA.out;clear HA;simp only [aKz.l1] at H;by_cases c12:x27_2<((rd_L1 l0 x16_1).length:Int)
 rotate_left
 ·rw [if_neg c12] at H;have c12b0:=decide_eq_false c12;clear c12;have H':=Aside0.mk H;clear H;go_wp2
  (try simp only [<-hl4_2])
  go_roundg k2
  case measure=>have:=HK1.out;have:=HK2.out;omega
  case rel=>exact ⟨(x4_2),(wrap64 (x16_1+1)),sd_,H',⟨by have:=HK1.out;have:=HK2.out;omega⟩,⟨by (try simp only [hl4_2]);(with_reducible repeat (first|apply Kd.R_alloc|apply Kd.c9z|apply Kd.cGz));exact HO_4.out⟩,⟨bl_⟩⟩
 rw [if_pos c12] at H;have c12b0:=decide_eq_true c12;clear c12;by_cases c13:0<=x27_2
 rotate_left
 ·rw [if_neg c13] at H;exact absurd H (by simp)
 rw [if_pos c13] at H;have c13b0:=decide_eq_true c13;clear c13;by_cases c14:x27_2<((rd_L1 l0 x16_1).length:Int)
 rotate_left
 ·rw [if_neg c14] at H;exact absurd H (by simp)
 rw [if_pos c14] at H;have c14b0:=decide_eq_true c14;clear c14;by_cases c15:x27_2<(x4_2.length:Int)
 rotate_left
 ·rw [if_neg c15] at H;exact absurd H (by simp)
 rw [if_pos c15] at H;have c15b0:=decide_eq_true c15;clear c15;obtain ⟨y108,hy108⟩: ∃y_:List Int,y_=(x4_2.set (x27_2:Int).toNat (Go.bits .xor .u8 (rd x4_2 x27_2) (rd (rd_L1 l0 x16_1) x27_2))):=⟨_,rfl⟩
 first|rw [Option.bind_some, <-hy108] at H|rw [<-hy108] at H
 (try dsimp only at H)
 have Ny108:=Aside0.mk hy108;clear hy108;have H':=Aside0.mk H;clear H;have p106:0<=(x27_2:Int):=of_decide_eq_true as_;have q106:x27_2<((rd_L1 l0 x16_1).length:Int):=of_decide_eq_true as_;obtain ⟨ad106,e106,hx106_0⟩:=Kd.brz HR105_0.out x27_2 p106 q106;cases e106
 replace hx106_0:=(HB.out.cell (World.block_lt_of_cell? w _ hx106_0)).trans hx106_0;replace p106:=eq_true p106;replace q106:=eq_true q106;have p107:0<=(x27_2:Int):=of_decide_eq_true as_;have q107:x27_2<(x4_2.length:Int):=of_decide_eq_true as_;obtain ⟨ad107,e107,hx107_0⟩:=Kd.brz (Kd.aRz HO_4.out).2.2 x27_2 p107 q107;cases e107
 replace p107:=eq_true p107;replace q107:=eq_true q107;have p16:0<=(x27_2:Int):=of_decide_eq_true as_;have q16:(x27_2:Int)<((x4_2.length:Int):Int):=of_decide_eq_true as_;obtain ⟨go16,co16,eo16,gb16,gl16,cl16,HG16⟩:=Kd.dzz HO_4.out (by omega)
 (first|cases eo16|(injection eo16 with ea_ en_ ec_;(first|subst ea_|(injection ea_ with ea_;subst ea_));subst ec_;clear en_))
 have GB16:=Aside0.mk gb16;have GG16:=Aside0.mk HG16;clear gb16 gl16 HG16
 (first|simp only [add_plain] at hx107_0|skip)
 obtain ⟨hx16_0,hf16_0⟩:=Kd.R_celln 0 HO_4.out (x27_2:Int) p16 q16;replace p16:=eq_true p16;replace q16:=eq_true q16;have HP17:=Kd.R_putg HO_4.out (x27_2:Int) (Go.bits .xor .u8 (rd x4_2 x27_2) (rd (rd_L1 l0 x16_1) x27_2))
 go_wp2_with (first|((with_reducible refine daz (t:=5) (p:=38) rfl ?_);refine dRz (t:=5) (p:=38) (v:= ?vo_w18) (w1:=(wr.setCell ⟨go16,(x27_2:Int).toNat,none⟩ (.int .u8 (Go.bits .xor .u8 (rd x4_2 x27_2) (rd (rd_L1 l0 x16_1) x27_2))))) ?hg ?ho ?hn ?hr ?_;(case ho=>rfl);(case hg=>rfl);(case hn=>rfl);(case hr=>first|(go_simp;done)|(go_simp;rfl));intro w18 hw;have hg:wr.grownBy w18 (some go16):=(by rw [hw];exact HP17.2);have hp_:Kd.R (Kd.int .u8) 5 w18 w.heap.size (fun _=>True) (.slice (some ⟨go16,0,none⟩) x4_2.length co11) y108:=(by rw [hw,Ny108.out];exact HP17.1);clear HP17;have n_:=And.intro (Aside0.mk (hp_)) (Aside0.mk ((by rw [hw];exact dvz (HB.out) GB16.out:Below w.heap.size w w18)));clear HO_4 HB;obtain ⟨HO_4,HB⟩:=n_;clear hg hw hp_))
 (try simp only [<-hl4_2])
 go_roundg k2
 case measure=>have:=HK1.out;have:=HK2.out;omega
 case rel=>exact ⟨(y108),(wrap64 (x27_2+1)),sd_,H',⟨by have:=HK1.out;have:=HK2.out;omega⟩,⟨by (try simp only [hl4_2]);(with_reducible repeat (first|apply Kd.R_alloc|apply Kd.c9z|apply Kd.cGz));exact HO_4.out⟩,⟨bl_⟩⟩
end Go.Proofs.Xc
end
