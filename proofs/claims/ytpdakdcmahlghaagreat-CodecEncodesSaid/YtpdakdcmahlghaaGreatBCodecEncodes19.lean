-- Joined texts of this work (wip/tools/bundle.py).
import Derived.Test.YtpdakdcmahlghaaGreatBCodecEncodes18
set_option maxHeartbeats 8000000
set_option maxRecDepth 100000
set_option linter.unusedVariables false
set_option linter.unusedSimpArgs false
section
namespace Go.Proofs.Xc
open Go.RowKit Go.Proofs.Pw Go.Proofs.Pl Go.Proofs.Pm
attribute [local go_sem] baz bbz bmz bnz a2z a3z bcz bdz
mutual
def amz.j0:Nat->Int->Int->List Int->List (List Int)->Bool->Option (List Int×Bool)
 |0,_,_,_,_,_=>none
 |k+1,x0,x1,x2,x3,x25=>if x25=true then (some (([] :List Int),false)) else (amz.l0 k x0 x1 x2 x3 ([] :List Int) 0)
def amz.l0:Nat->Int->Int->List Int->List (List Int)->List Int->Int->Option (List Int×Bool)
 |0,_,_,_,_,_,_=>none
 |k+1,x0,x1,x2,x3,x10,x11=>if x11<(x2.length:Int) then (if 0<=x11 then (if x11<(x3.length:Int) then ((a0z.f k x0 x1 (rd x2 x11) (rd_L1 x3 x11)).bind fun bt742=>(if bt742.2=true then (if 0<(x3.length:Int) then (amz.j2 k x0 x1 x2 x3 x10 x11 bt742.1 (((rd_L1 x3 x11).length:Int) !=((rd_L1 x3 0).length:Int))) else (none)) else (amz.j2 k x0 x1 x2 x3 x10 x11 bt742.1 true))) else (none)) else (none)) else (some (x10,true))
def amz.j2:Nat->Int->Int->List Int->List (List Int)->List Int->Int->List Int->Bool->Option (List Int×Bool)
 |0,_,_,_,_,_,_,_,_=>none
 |k+1,x0,x1,x2,x3,x10,x11,x12,x59=>if x59=true then (some (([] :List Int),false)) else (if x11=0 then (amz.l0 k x0 x1 x2 x3 x12 (wrap64 (x11+1))) else ((aVz.f k x10 x12).bind fun bt748=>(amz.l0 k x0 x1 x2 x3 bt748.1 (wrap64 (x11+1)))))
end
def amz.f (k:Nat) (a0:Int) (a1:Int) (l2:List Int) (l3:List (List Int)):Option (List Int×Bool):=if (l2.length:Int)=(l3.length:Int) then (amz.j0 k a0 a1 l2 l3 ((l2.length:Int)==0)) else (amz.j0 k a0 a1 l2 l3 true)
def amz.T7:Bool×List (List Nat×List Nat):=(true, [([], []),([], []),([], []),([], []),([2,3], [2,3]),([4], [4]),([], []),([], []),([6,7], [6,7]),([8], [8]),([0,1,5,9], [0,1,5,9]),([10], [10]),([11], [11]),([11], [11]),([12,10,0,1,2,3,4,5,6,7,8,9,10,11,12], [12]),([13,14,0,1,2,3,4,5,6,7,8,9,10,11,12,13,14], [13])])
def amz.B7:List Nat:= [0,0,0,0,12,28,0,0,192,448,1023,2047,4095,4095,8191,32767]
theorem amz.tab7:rtab .any (opsOf Tryz.f52 7)=amz.T7:=by kernel_rfl
theorem amz.bits7:waitsOk amz.T7.2 amz.B7=true:=by kernel_rfl
def amz.T8:Bool×List (List Nat×List Nat):=(true, [([], []),([0], [0]),([1], [1]),([2], [2]),([2], [2]),([3,4,2], [2,3,4]),([5,2], [2,5]),([6,2], [2,6]),([2], [2]),([8,2], [2,8]),([9,2], [2,9]),([10,2], [2,10]),([7,11,2], [2,7,11]),([2,12], [2,12])])
def amz.B8:List Nat:= [0,1,3,7,7,31,63,127,7,263,775,1799,4095,8191]
theorem amz.tab8:rtab .any (opsOf Tryz.f52 8)=amz.T8:=by kernel_rfl
theorem amz.bits8:waitsOk amz.T8.2 amz.B8=true:=by kernel_rfl
theorem amz.calls (k : Nat) (a0 : Int) (a1 : Int) (A2 : Option Addr) (c2 : Nat) (l2 : List Int) (A3 : Option Addr) (c3 : Nat) (l3 : List (List Int)) (r1 : List Int) (r2 : Bool) (w : World) (hr2 : Kd.C (Kd.int .i64) w A2 l2.length l2) (hc2 : l2.length <= c2) (hr3 : Kd.C (Kd.slice 5 (Kd.int .u8)) w A3 l3.length l3) (hc3 : l3.length <= c3) (h : amz.f k a0 a1 l2 l3 = some (r1, r2)) :
  Calls Tryz.prog 52 #[.int .i64 a0, .int .u32 a1, .slice A2 l2.length c2, .slice A3 l3.length c3] w fun e w'=> ∃v0_:Value,e= .returned (.tuple #[v0_, .bool r2])/\Kd.R (Kd.int .u8) 5 w' w.heap.size (fun _=>True) v0_ r1/\Below w.heap.size w w':=by
 have HR2:=Za hr2;have HC2:=Za hc2;clear hr2 hc2;have HR3:=Za hr3;have HC3:=Za hc3;clear hr3 hc3;have HB:=Za (Zw w.heap.size w);have H:=h;clear h;unfold amz.f at H;have HC5:=Za H;clear H;go_enter Tryz.func52,Tryz.ntmps52
 go_upto_region 1 with (fail)
 go_cut [25] (fun v25 wc=> ∃(kq:Nat) (x25_4:Bool),v25= .bool x25_4/\Aside0 (amz.j0 kq a0 a1 l2 l3 x25_4=some (r1,r2))/\Aside0 (kq<=k)/\Aside0 (Below w.heap.size w wc))
 case first=>
  have H:=HC5.out;clear HC5;by_cases c6:(l2.length:Int)=(l3.length:Int)
  ·rw [Ya c6] at H;have c6b0:((l2.length:Int)==(l3.length:Int))=true:=Ye c6;have c6b1:((l2.length:Int) !=(l3.length:Int))=false:=Yc c6
   have c6b2:(l2.length==l3.length)=true:=by first|simpa using c6|(simp at c6|-;omega)
   clear c6
   (first|rw [c6b0] |(simp only [i64_w,i32_w];rw [c6b0])|skip)
   have H':=Za H;clear H;go_wp2
   go_meet
   case rel=>exact ⟨_,(((l2.length:Int)==0)),sd_,H',⟨by first|omega|exact Zv _⟩,⟨bl_⟩⟩
  ·rw [Yb c6] at H;have c6b0:((l2.length:Int)==(l3.length:Int))=false:=Zq c6;have c6b1:((l2.length:Int) !=(l3.length:Int))=true:=Yd c6
   have c6b2:(l2.length==l3.length)=false:=by first|simpa using c6|(simp at c6|-;omega)
   (first|rw [c6b0] |(simp only [i64_w,i32_w];rw [c6b0])|skip)
   have H':=Za H;clear H;go_wp2
   go_meet
   case rel=>exact ⟨_,(true),sd_,H',⟨by first|omega|exact Zv _⟩,⟨bl_⟩⟩
 case rest=>
  clear HC5
  try clear c2
  try clear p2
  try clear c3
  try clear c5
  try clear c6
  try clear c6b0
  try clear c6b1
  try clear c6b2
  obtain ⟨kq,x25_4,rfl,HA,HJ4,HB⟩:=hcut;rcases kq with _|kj4
  ·exact Yf HA.out (by simp [amz.j0])
  have H:=HA.out;clear HA;simp only [amz.j0] at H;by_cases c7:x25_4=true
  ·subst c7;rw [Ya rfl] at H;simp only [Zx,Zy] at H;obtain ⟨rfl,rfl⟩:=H;go_wp2;go_ret2;exact ⟨_,er_,nl_,bl_⟩
  ·replace c7:=Zr c7;subst c7;rw [Yb (show¬(false=true) by decide)] at H;have H':=Za H;clear H;go_wp2
   go_loopg [10,11] kj4 (fun kq v10 v11 w'=> ∃(x10_2:List Int) (x11_2:Int),v11= .int .i64 x11_2/\Aside0 (amz.l0 kq a0 a1 l2 l3 x10_2 x11_2=some (r1,r2))/\Aside0 (kq<=kj4)/\Aside0 (Kd.R (Kd.int .u8) 5 w' w.heap.size (fun _=>True) v10 x10_2)/\Aside0 (Below w.heap.size w w'))
   case atStart=>exact ⟨(([] :List Int)),(0),sd_,H',⟨Zv _⟩,⟨nl_⟩,⟨bl_⟩⟩
   clear H'
   try clear c2
   try clear p2
   try clear c3
   try clear c5
   try clear c6
   try clear c6b0
   try clear c6b1
   try clear c6b2
   try clear c7
   try clear p2
   obtain ⟨x10_2,x11_2,rfl,HA,HK2,HO_10,HB⟩:=hrel;rcases gk with _|k2
   ·exact Yf HA.out (by simp [amz.l0])
   have H:=HA.out;clear HA;simp only [amz.l0] at H;by_cases c8:x11_2<(l2.length:Int)
   rotate_left
   ·rw [Yb c8] at H;have c8b0:=Ze c8;clear c8;simp only [Zx,Zy] at H;obtain ⟨rfl,rfl⟩:=H;go_wp2;go_ret2;exact ⟨_,er_,xd_ HO_10.out,bl_⟩
   rw [Ya c8] at H;have c8b0:=Zd c8;clear c8;by_cases c9:0<=x11_2
   rotate_left
   ·rw [Yb c9] at H;exact Yf H (by simp)
   rw [Ya c9] at H;have c9b0:=Zd c9;clear c9;by_cases c10:x11_2<(l3.length:Int)
   rotate_left
   ·rw [Yb c10] at H;exact Yf H (by simp)
   rw [Ya c10] at H;have c10b0:=Zd c10;clear c10;obtain ⟨⟨t742,t743⟩,A11,H⟩:=ob_ H
   (try dsimp only at H)
   have HC12:=Za H;clear H
   try go_wp2
   have n_:=Zb (Za (Kd.cJz HO_10.out)) (Za (cnz HB.out));clear HO_10 HB;obtain ⟨HO_10,HB⟩:=n_;have p740:0<=(x11_2:Int):=Zc as_;have q740:x11_2<(l2.length:Int):=Zc as_;obtain ⟨ad740,e740,hx740_0⟩:=Kd.bqz HR2.out x11_2 p740 q740;have hw740_0:=hx740_0;cases e740
   replace hx740_0:=(HB.out.cell (Zj w _ hx740_0)).trans hx740_0;replace p740:=Zz p740;replace q740:=Zz q740;have p741:0<=(x11_2:Int):=Zc as_;have q741:x11_2<(l3.length:Int):=Zc as_;obtain ⟨ad741,A741_0,c741_0,e741,hx741_0,hl741_0,hi741_0⟩:=at_L1 HR3.out x11_2 p741 q741;have hw741_0:=hx741_0;cases e741
   replace hx741_0:=(HB.out.cell (Zj w _ hx741_0)).trans hx741_0;have HR741_0:=Za hi741_0;have HC741_0:=Za hl741_0;clear hi741_0 hl741_0;replace p741:=Zz p741;replace q741:=Zz q741;refine bXz (n:=16) (S:=fun w'=>w'.cell? (ad740.add (x11_2).toNat)=some (.int .i64 (rd l2 x11_2))/\w'.cell? (ad741.add (x11_2).toNat)=some (.slice A741_0 (rd_L1 l3 x11_2).length c741_0)) (ds:= []) (bA 16 0) kr_ rfl rfl ⟨((HB.out.cell (Zj w _ hw740_0)).trans hw740_0),((HB.out.cell (Zj w _ hw741_0)).trans hw741_0)⟩ (fun hHeld=> ?_);refine cUz amz.tab7 amz.bits7 (fun HT_ HW_=> ?_);generalize wr.drew=w13 at HO_10 HB HR741_0 hx740_0 hx741_0 hHeld|-;refine pv_ 0 33 1 HT_ ?_;refine pv_ 1 34 3 HT_ ?_;refine pv_ 2 35 7 HT_ ?_;refine pv_ 3 36 15 HT_ ?_;refine pv_ 4 37 31 HT_ ?_;refine pv_ 6 39 95 HT_ ?_;refine pv_ 7 40 223 HT_ ?_;refine pv_ 8 41 479 HT_ ?_;refine tw_ 5 38 511 HT_ HW_ hHeld ?_;refine tw_ 9 42 1023 HT_ HW_ hHeld ?_
   refine one_ (i:=10) (N:=some 43) (bA 16 2047) rfl rfl (cZz HT_.out kr_) (by decide) (fun K hK=> ?_);refine goes_ Tryz.func71 kr_ rfl #[.int .i64 a0, .int .u32 a1, .int .i64 (rd l2 x11_2), .slice A741_0 (rd_L1 l3 x11_2).length c741_0] (by rfl) rfl rfl ar_ ?_
   with_reducible refine (a0z.calls k2 a0 a1 (rd l2 x11_2) _ _ (rd_L1 l3 x11_2) t742 t743 _ ?side1 ?side2 A11.out).mono ?_
   (case side1=>repeat (first|exact (Kd.aMz HR741_0.out HB.out)|(with_reducible refine Kd.b2z ?_ _)|(with_reducible refine Kd.bzz ?_ _)|(with_reducible refine Kd.ckz ?_)))
   (case side2=>exact HC741_0.out)
   rintro e w14 ⟨v744,rfl,ho0,hb⟩;refine ⟨_,rfl,?_⟩;have n_:=Zb (Za (Kd.dMz (xd_ HO_10.out) (Kd.chz ho0) hb)) (Zb (Za (Kd.bGz (Kd.R_new' ho0 (Kd.R_lt (xd_ HO_10.out))) (acz bl_))) (hs_ HB hb));clear HO_10 HB;obtain ⟨HO_10,HO745,HB⟩:=n_
   (try clear hb)
   (try clear hb2)
   (try clear hk)
   (try clear hi)
   (try clear ho0)
   refine hK.out _ _ ⟨((HB.out.cell (Zj w _ hw740_0)).trans hw740_0),((HB.out.cell (Zj w _ hw741_0)).trans hw741_0)⟩ (fun hHeld=> ?_);clear hK K;refine norm_ (a':= ?_) ?_ ?_;rotate_left
   ·show Act.put _ (some 43) _=_;simp only [Act.put,Zg,Zh,Zi,i64_w,i32_w];rfl
   refine pv_ 11 32 4095 HT_ ?_;refine pv_ 12 44 8191 HT_ ?_;refine pv_ 13 45 16383 HT_ ?_;refine pv_ 14 12 32767 HT_ ?_;refine pv_ 15 13 65535 HT_ ?_;refine done_ (dyz HT_.out kr_) ?_
   go_upto_region 8 with (fail)
   go_cut [59] (fun v59 wc=> ∃(kq:Nat) (x59_11:Bool),v59= .bool x59_11/\Aside0 (amz.j2 kq a0 a1 l2 l3 x10_2 x11_2 t742 x59_11=some (r1,r2))/\Aside0 (kq<=k2)/\Aside0 (Kd.R (Kd.int .u8) 5 wc w.heap.size (fun k_=>some k_≠(v744:Value).ownBlock) u10 x10_2)/\Aside0 (Kd.R (Kd.int .u8) 5 wc w.heap.size (fun k_=>some k_≠(u10:Value).ownBlock) v744 t742)/\Aside0 (Below w.heap.size w wc))
   case first=>
    have H:=HC12.out;clear HC12;by_cases c15:t743=true
    rotate_left
    ·replace c15:=Zr c15;subst c15;rw [Yb (show¬(false=true) by decide)] at H;have H':=Za H;clear H
     try go_wp2
     have n_:=Zb (Za (Kd.cJz HO_10.out)) (Zb (Za (Kd.cJz HO745.out)) (Za (cnz HB.out)));clear HO_10 HO745 HB;obtain ⟨HO_10,HO745,HB⟩:=n_;refine bXz (n:=14) (S:=fun w'=>True) (ds:= []) (bA 14 0) kr_ rfl rfl trivial (fun hHeld=> ?_);refine cUz amz.tab8 amz.bits8 (fun HT_ HW_=> ?_);generalize w14.drew=w18 at HO_10 HO745 HB hHeld|-;refine pv_ 0 46 1 HT_ ?_;refine pv_ 1 47 3 HT_ ?_;refine pv_ 2 48 7 HT_ ?_;refine pn_ 3 49 15 HT_ ?_;refine pn_ 4 50 31 HT_ ?_;refine pn_ 5 51 63 HT_ ?_;refine pn_ 6 52 127 HT_ ?_;refine pn_ 7 53 255 HT_ ?_;refine pn_ 8 54 511 HT_ ?_;refine pn_ 9 55 1023 HT_ ?_;refine pn_ 10 56 2047 HT_ ?_;refine pn_ 11 57 4095 HT_ ?_;refine pn_ 12 58 8191 HT_ ?_;refine pv_ 13 59 16383 HT_ ?_;refine done_ (dyz HT_.out kr_) ?_
     try go_wp2
     go_meet
     case rel=>exact ⟨_,(true),sd_,H',⟨by have:=HJ4.out;have:=HK2.out;first|omega|exact Zv _⟩,⟨rm_ HO_10⟩,⟨rm_ HO745⟩,⟨bl_⟩⟩
    subst c15;rw [Ya rfl] at H;by_cases c16:0<(l3.length:Int)
    rotate_left
    ·rw [Yb c16] at H;exact Yf H (by simp)
    rw [Ya c16] at H;have c16b0:=Zd c16;have c16b1:decide (0<l3.length)=true:=Zd (by omega);clear c16
    (first|rw [c16b0] |(simp only [i64_w,i32_w];rw [c16b0])|skip)
    have H':=Za H;clear H
    try go_wp2
    have n_:=Zb (Za (Kd.cJz HO_10.out)) (Zb (Za (Kd.cJz HO745.out)) (Za (cnz HB.out)));clear HO_10 HO745 HB;obtain ⟨HO_10,HO745,HB⟩:=n_;have p746:0<=(x11_2:Int):=Zc as_;have q746:x11_2<(l3.length:Int):=Zc as_;obtain ⟨ad746,A746_0,c746_0,e746,hx746_0,hl746_0,hi746_0⟩:=at_L1 HR3.out x11_2 p746 q746;have hw746_0:=hx746_0;obtain rfl:ad741=ad746:=(by injection e746);replace hx746_0:=(HB.out.cell (Zj w _ hx746_0)).trans hx746_0;have HR746_0:=Za hi746_0;have HC746_0:=Za hl746_0;clear hi746_0 hl746_0;replace p746:=Zz p746;replace q746:=Zz q746;have p747:0<=(0:Int):=(by omega);have q747:0<(l3.length:Int):=Zc as_;obtain ⟨ad747,A747_0,c747_0,e747,hx747_0,hl747_0,hi747_0⟩:=at_L1 HR3.out 0 p747 q747;have hw747_0:=hx747_0
    (try rw [show ((0:Int)).toNat=0 from rfl] at hw747_0)
    (try rw [show 0*1=0 from rfl] at hw747_0)
    (try rw [Addr.add_zero'] at hw747_0)
    obtain rfl:ad741=ad747:=(by injection e747);have qi747:(0<l3.length)=True:=Zz (by omega)
    (try rw [show ((0:Int)).toNat=0 from rfl] at hx747_0)
    (try rw [Addr.add_zero'] at hx747_0)
    replace hx747_0:=(HB.out.cell (Zj w _ hx747_0)).trans hx747_0;have HR747_0:=Za hi747_0;have HC747_0:=Za hl747_0;clear hi747_0 hl747_0;replace p747:=Zz p747;replace q747:=Zz q747;refine bXz (n:=14) (S:=fun w'=>w'.cell? (ad741.add (x11_2).toNat)=some (.slice A746_0 (rd_L1 l3 x11_2).length c746_0)/\w'.cell? ad741=some (.slice A747_0 (rd_L1 l3 0).length c747_0)) (ds:= []) (bA 14 0) kr_ rfl rfl ⟨((HB.out.cell (Zj w _ hw746_0)).trans hw746_0),((HB.out.cell (Zj w _ hw747_0)).trans hw747_0)⟩ (fun hHeld=> ?_);refine cUz amz.tab8 amz.bits8 (fun HT_ HW_=> ?_);generalize w14.drew=w17 at HO_10 HO745 HB HR746_0 HR747_0 hx746_0 hx747_0 hHeld|-;refine pv_ 0 46 1 HT_ ?_;refine pv_ 1 47 3 HT_ ?_;refine pv_ 2 48 7 HT_ ?_;refine pv_ 3 49 15 HT_ ?_;refine pv_ 4 50 31 HT_ ?_;refine pv_ 5 51 63 HT_ ?_;refine pv_ 8 54 319 HT_ ?_;refine pv_ 9 55 831 HT_ ?_;refine tw_ 6 52 895 HT_ HW_ hHeld ?_;refine pv_ 7 53 1023 HT_ ?_
    refine tw_ 10 56 2047 HT_ HW_ hHeld ?_;refine pv_ 11 57 4095 HT_ ?_;refine pv_ 12 58 8191 HT_ ?_;refine pv_ 13 59 16383 HT_ ?_;refine done_ (dyz HT_.out kr_) ?_
    try go_wp2
    go_meet
    case rel=>exact ⟨_,((((rd_L1 l3 x11_2).length:Int) !=((rd_L1 l3 0).length:Int))),sd_,H',⟨by have:=HJ4.out;have:=HK2.out;first|omega|exact Zv _⟩,⟨rm_ HO_10⟩,⟨rm_ HO745⟩,⟨bl_⟩⟩
   case rest=>
    clear HC12
    try clear c1
    try clear c2
    try clear p2
    try clear c3
    try clear c5
    try clear c6
    try clear c6b0
    try clear c6b1
    try clear c6b2
    try clear c7
    try clear p7
    try clear q7
    try clear hx7
    try clear qi7
    try clear c8
    try clear c8b0
    try clear c9
    try clear c9b0
    try clear c10
    try clear c10b0
    try clear c15
    try clear c16
    try clear c16b0
    try clear c16b1
    try clear hx740_0
    try clear hx741_0
    try clear hx746_0
    try clear hx747_0
    try clear p2
    try clear p740
    try clear p741
    try clear p746
    try clear p747
    try clear q740
    try clear q741
    try clear q746
    try clear q747
    obtain ⟨kq,x59_11,rfl,HA,HJ11,HO_10,HO_12,HB⟩:=hcut;rcases kq with _|kj11
    ·exact Yf HA.out (by simp [amz.j2])
    have H:=HA.out;clear HA;simp only [amz.j2] at H;by_cases c19:x59_11=true
    ·subst c19;rw [Ya rfl] at H;simp only [Zx,Zy] at H;obtain ⟨rfl,rfl⟩:=H;go_wp2;go_ret2;exact ⟨_,er_,nl_,bl_⟩
    ·replace c19:=Zr c19;subst c19;rw [Yb (show¬(false=true) by decide)] at H;by_cases c20:x11_2=0
     ·rw [Ya c20] at H;have c20b0:(x11_2==0)=true:=Ye c20;have c20b1:(x11_2 !=0)=false:=Yc c20;clear c20;have H':=Za H;clear H;go_wp2
      go_roundg kj11
      case measure=>have:=HJ4.out;have:=HK2.out;have:=HJ11.out;omega
      case rel=>exact ⟨(t742),(wrap64 (x11_2+1)),sd_,H',⟨by have:=HJ4.out;have:=HK2.out;have:=HJ11.out;omega⟩,⟨rm_ HO_12⟩,⟨bl_⟩⟩
     ·rw [Yb c20] at H;have c20b0:(x11_2==0)=false:=Zq c20;have c20b1:(x11_2 !=0)=true:=Yd c20;obtain ⟨⟨t748,t749⟩,A21,H⟩:=ob_ H
      (try dsimp only at H)
      have H':=Za H;clear H;obtain ⟨Ao22,co22,eo22⟩:=Kd.a7z HO_10.out;subst eo22;obtain ⟨Ao23,co23,eo23⟩:=Kd.a7z HO_12.out;subst eo23
      go_wp2_with (first|((with_reducible refine abz (f:=70) rfl ?_);refine gl_ (some 66) Tryz.func70 #[.slice Ao22 x10_2.length co22, .slice Ao23 t742.length co23] ?_;(with_reducible refine (aVz.calls kj11 _ _ x10_2 _ _ t742 t748 t749 _ (xd_ (Kd.aSz HO_10.out).2.2) ((Kd.aSz HO_10.out).2.1) (xd_ (Kd.aSz HO_12.out).2.2) ((Kd.aSz HO_12.out).2.1) A21.out).mono ?_);rintro e w24 ⟨v750,rfl,ho0,hb⟩;refine ⟨_,rfl,?_⟩;have n_:=Zb (Za (Kd.dMz (xd_ HO_10.out) (Kd.chz ho0) hb)) (Zb (Za (Kd.dMz (xd_ HO_12.out) (Kd.chz ho0) hb)) (Zb (Za (Kd.bGz (Kd.R_new' (Kd.R_new' ho0 (Kd.R_lt (xd_ HO_10.out))) (Kd.R_lt (xd_ HO_12.out))) (acz bl_))) (hs_ HB hb)));clear HO_10 HO_12 HB;obtain ⟨HO_10,HO_12,HO751,HB⟩:=n_;clear hb ho0))
      go_roundg kj11
      case measure=>have:=HJ4.out;have:=HK2.out;have:=HJ11.out;omega
      case rel=>exact ⟨(t748),(wrap64 (x11_2+1)),sd_,H',⟨by have:=HJ4.out;have:=HK2.out;have:=HJ11.out;omega⟩,⟨rm_ HO751⟩,⟨bl_⟩⟩
mutual
def arz.j0:Nat->List (List Int)->Bool->Int->Int->Int->Option ((List (List Int))×Int)
 |0,_,_,_,_,_=>none
 |k+1,x1,x29,x753000,x753001,x753002=>if x29=true then (some (([] :List (List Int)),1)) else ((aRz.f x753000).bind fun bt755=>((brz.f k x753000 x753001 x753002).bind fun bt762=>(arz.l0 k x1 bt762.1 ([] :List (List Int)) 0 bt755.1 bt755.2.1 bt755.2.2.1 bt755.2.2.2.1 bt755.2.2.2.2.1)))
def arz.l0:Nat->List (List Int)->List (List Int)->List (List Int)->Int->ByteArray->Int->Int->Int->Int->Option ((List (List Int))×Int)
 |0,_,_,_,_,_,_,_,_,_=>none
 |k+1,x1,x8,x10,x11,x762000,x762001,x762002,x762003,x762004=>if x11<(x8.length:Int) then (if 0<=x11 then ((amz.f k x762001 x762002 (rd_L4 x8 x11) x1).bind fun bt767=>(if x10.length<5864062014805 then (arz.l0 k x1 x8 (x10++ [bt767.1]) (wrap64 (x11+1)) x762000 x762001 x762002 x762003 x762004) else (none))) else (none)) else (some (x10,0))
end
def arz.f (k:Nat) (a0_0:Int) (a0_1:Int) (a0_2:Int) (l1:List (List Int)):Option ((List (List Int))×Int):=(biz.f a0_0 a0_1 a0_2).bind fun t753=>(if t753=true then (if (l1.length:Int)=a0_1 then ((bfz.f k a0_0 a0_1 a0_2 l1).bind fun t754=>(arz.j0 k l1 (!t754) a0_0 a0_1 a0_2)) else (arz.j0 k l1 true a0_0 a0_1 a0_2)) else (arz.j0 k l1 true a0_0 a0_1 a0_2))
def arz.T9:Bool×List (List Nat×List Nat):=(true, [([], []),([0], [0]),([], []),([2], [2]),([], []),([], []),([4,5], [4,5]),([6], [6]),([], []),([1,3,7,8], [1,3,7,8]),([9], [9]),([10], [10]),([10], [10]),([11,9,0,1,2,3,4,5,6,7,8,9,10,11], [11]),([12,13,0,1,2,3,4,5,6,7,8,9,10,11,12,13], [12])])
def arz.B9:List Nat:= [0,1,0,4,0,0,48,112,0,511,1023,2047,2047,4095,16383]
theorem arz.tab9:rtab .any (opsOf Tryz.f20 9)=arz.T9:=by kernel_rfl
theorem arz.bits9:waitsOk arz.T9.2 arz.B9=true:=by kernel_rfl
theorem arz.calls (k : Nat) (a0_0 : Int) (a0_1 : Int) (a0_2 : Int) (A1 : Option Addr) (c1 : Nat) (l1 : List (List Int)) (r1 : List (List Int)) (r2 : Int) (w : World) (hr1 : Kd.C (Kd.slice 5 (Kd.int .u8)) w A1 l1.length l1) (hc1 : l1.length <= c1) (h : arz.f k a0_0 a0_1 a0_2 l1 = some (r1, r2)) :
  Calls Tryz.prog 20 #[.agg #[.int .i64 a0_0, .int .i64 a0_1, .int .i64 a0_2], .slice A1 l1.length c1] w fun e w'=> ∃v0_:Value,e= .returned (.tuple #[v0_, .int .i64 r2])/\Kd.S (Kd.slice 5 (Kd.int .u8)) 34 w' w.heap.size (fun _=>True) v0_ r1/\Below w.heap.size w w':=by
 have hu23:=Tryz.underlying23;have hu79:=Tryz.underlying79;have HR1:=Za hr1;have HC1:=Za hc1;clear hr1 hc1;have HB:=Za (Zw w.heap.size w);have H:=h;clear h;unfold arz.f at H;have HC3:=Za H;clear H;go_enter Tryz.func20,Tryz.ntmps20
 go_upto_region 1 with (first|((with_reducible refine aUz (N:=2) rfl ?_);(try (refine a5z (by rfl) ?_;dsimp only));refine bx_ 2 #[.int .i64 a0_0, .int .i64 a0_1, .int .i64 a0_2] 23 ?_;intro gb752 hg w4 hbox hb;have n_:=Zb (hs_ HB hb) (Zb (Za (hbox)) (Zb (ag_ HB gb752) (ag_ HB gb752)));clear HB;obtain ⟨HB,BK752,GW752,GE752⟩:=n_;clear hb hbox hg))
 (try simp only [Act.put,Zg,Zh,Zi])
 go_cut [29] (fun v29 wc=> ∃(kq:Nat) (x29_2:Bool),v29= .bool x29_2/\Aside0 (arz.j0 kq l1 x29_2 a0_0 a0_1 a0_2=some (r1,r2))/\Aside0 (kq<=k)/\Aside0 (wc.heap[gb752]?=some (.cells #[.int .i64 a0_0, .int .i64 a0_1, .int .i64 a0_2] 23 (0,0)))/\Aside0 (Below w.heap.size w wc))
 case first=>
  have H:=HC3.out;clear HC3;obtain ⟨t753,A5,H⟩:=ob_ H
  (try dsimp only at H)
  by_cases c6:t753=true
  rotate_left
  ·replace c6:=Zr c6;subst c6;rw [Yb (show¬(false=true) by decide)] at H;have H':=Za H;clear H;obtain ⟨hcz16_0,hfz16_0,hcz16_1,hfz16_1,hcz16_2,hfz16_2⟩:=bc3_ BK752.out
   go_wp2_with (first|((with_reducible refine abz (f:=48) rfl ?_);refine gl_ (some 15) Tryz.func48 #[.agg #[.int .i64 a0_0, .int .i64 a0_1, .int .i64 a0_2]] ?_;(with_reducible refine (biz.calls a0_0 a0_1 a0_2 false _ A5.out).mono ?_);rintro e w17 ⟨rfl,hb⟩;refine ⟨_,rfl,?_⟩;have n_:=Zb (bb_ BK752 hb) (hs_ HB hb);clear BK752 HB;obtain ⟨BK752,HB⟩:=n_;(try clear hb)))
   go_meet
   case rel=>exact ⟨_,(true),sd_,H',⟨by first|omega|exact Zv _⟩,⟨bk_⟩,⟨bl_⟩⟩
  subst c6;rw [Ya rfl] at H;by_cases c7:(l1.length:Int)=a0_1
  rotate_left
  ·rw [Yb c7] at H;have c7b0:((l1.length:Int)==a0_1)=false:=Zq c7;have c7b1:((l1.length:Int) !=a0_1)=true:=Yd c7
   (first|rw [c7b0] |(simp only [i64_w,i32_w];rw [c7b0])|skip)
   have H':=Za H;clear H;obtain ⟨hcz13_0,hfz13_0,hcz13_1,hfz13_1,hcz13_2,hfz13_2⟩:=bc3_ BK752.out
   go_wp2_with (first|((with_reducible refine abz (f:=48) rfl ?_);refine gl_ (some 15) Tryz.func48 #[.agg #[.int .i64 a0_0, .int .i64 a0_1, .int .i64 a0_2]] ?_;(with_reducible refine (biz.calls a0_0 a0_1 a0_2 true _ A5.out).mono ?_);rintro e w14 ⟨rfl,hb⟩;refine ⟨_,rfl,?_⟩;have n_:=Zb (bb_ BK752 hb) (hs_ HB hb);clear BK752 HB;obtain ⟨BK752,HB⟩:=n_;(try clear hb);obtain ⟨hcz15_0,hfz15_0,hcz15_1,hfz15_1,hcz15_2,hfz15_2⟩:=bc3_ BK752.out))
   go_meet
   case rel=>exact ⟨_,(true),sd_,H',⟨by first|omega|exact Zv _⟩,⟨bk_⟩,⟨bl_⟩⟩
  rw [Ya c7] at H;have c7b0:((l1.length:Int)==a0_1)=true:=Ye c7;have c7b1:((l1.length:Int) !=a0_1)=false:=Yc c7;clear c7
  (first|rw [c7b0] |(simp only [i64_w,i32_w];rw [c7b0])|skip)
  obtain ⟨t754,A8,H⟩:=ob_ H
  (try dsimp only at H)
  have H':=Za H;clear H;obtain ⟨hcz9_0,hfz9_0,hcz9_1,hfz9_1,hcz9_2,hfz9_2⟩:=bc3_ BK752.out
  go_wp2_with (first|((with_reducible refine abz (f:=48) rfl ?_);refine gl_ (some 15) Tryz.func48 #[.agg #[.int .i64 a0_0, .int .i64 a0_1, .int .i64 a0_2]] ?_;(with_reducible refine (biz.calls a0_0 a0_1 a0_2 true _ A5.out).mono ?_);rintro e w10 ⟨rfl,hb⟩;refine ⟨_,rfl,?_⟩;have n_:=Zb (bb_ BK752 hb) (hs_ HB hb);clear BK752 HB;obtain ⟨BK752,HB⟩:=n_;(try clear hb);obtain ⟨hcz11_0,hfz11_0,hcz11_1,hfz11_1,hcz11_2,hfz11_2⟩:=bc3_ BK752.out)|(go_at_call 49;(with_reducible refine (bfz.calls k a0_0 a0_1 a0_2 _ _ l1 t754 _ (xd_ (Kd.aMz HR1.out HB.out)) (HC1.out) A8.out).mono ?_);rintro e w12 ⟨rfl,hb⟩;have n_:=Zb (bb_ BK752 hb) (hs_ HB hb);clear BK752 HB;obtain ⟨BK752,HB⟩:=n_;(try clear hb)))
  go_meet
  case rel=>exact ⟨_,(!t754),sd_,H',⟨by first|omega|exact Zv _⟩,⟨bk_⟩,⟨bl_⟩⟩
 case rest=>
  clear HC3
  try clear c1
  try clear c2
  try clear p2
  try clear c4
  try clear c6
  try clear c7
  try clear c7b0
  try clear c7b1
  try clear hcz11_0
  try clear hcz11_1
  try clear hcz11_2
  try clear hcz13_0
  try clear hcz13_1
  try clear hcz13_2
  try clear hcz15_0
  try clear hcz15_1
  try clear hcz15_2
  try clear hcz16_0
  try clear hcz16_1
  try clear hcz16_2
  try clear hcz9_0
  try clear hcz9_1
  try clear hcz9_2
  try clear hfz11_0
  try clear hfz11_1
  try clear hfz11_2
  try clear hfz13_0
  try clear hfz13_1
  try clear hfz13_2
  try clear hfz15_0
  try clear hfz15_1
  try clear hfz15_2
  try clear hfz16_0
  try clear hfz16_1
  try clear hfz16_2
  try clear hfz9_0
  try clear hfz9_1
  try clear hfz9_2
  obtain ⟨kq,x29_2,rfl,HA,HJ2,BK752,HB⟩:=hcut;rcases kq with _|kj2
  ·exact Yf HA.out (by simp [arz.j0])
  have H:=HA.out;clear HA;simp only [arz.j0] at H;by_cases c18:x29_2=true
  ·subst c18;rw [Ya rfl] at H;simp only [Zx,Zy] at H;obtain ⟨rfl,rfl⟩:=H;go_wp2;go_ret2;exact ⟨_,er_,nl_,bl_⟩
  ·replace c18:=Zr c18;subst c18;rw [Yb (show¬(false=true) by decide)] at H;obtain ⟨⟨t755,t756,t757,t758,t759,t760⟩,A19,H⟩:=ob_ H
   (try dsimp only at H)
   obtain ⟨⟨t762,t765⟩,A20,H⟩:=ob_ H
   (try dsimp only at H)
   have H':=Za H;clear H;obtain ⟨hcz21_0,hfz21_0,hcz21_1,hfz21_1,hcz21_2,hfz21_2⟩:=bc3_ BK752.out
   go_wp2_with (first|((with_reducible refine abz (f:=50) rfl ?_);refine gl_ (some 33) Tryz.func50 #[.int .i64 a0_0] ?_;(with_reducible refine (aRz.calls a0_0 t755 t756 t757 t758 t759 t760 _ A19.out).mono ?_);rintro e w22 ⟨rfl,hb⟩;refine ⟨_,rfl,?_⟩;have n_:=Zb (bb_ BK752 hb) (hs_ HB hb);clear BK752 HB;obtain ⟨BK752,HB⟩:=n_;(try clear hb))|((with_reducible refine aUz (N:=6) rfl ?_);(try (refine a5z (by rfl) ?_;dsimp only));refine b4z ?hg (N:=6) ?hd (cs:= #[.string (⟨#[]⟩:ByteArray), .int .i64 0, .int .u32 0, .int .u8 0, .int .i64 0]) (t:=79) ?hr ?_;(case hd=>rfl);(case hg=>rfl);(case hr=>first|(go_simp;done)|(go_simp;rfl));intro gb761 hg w23 hbox hb;have n_:=Zb (bb_ BK752 hb) (Zb (hs_ HB hb) (Zb (Za (hbox)) (Zb (ag_ HB gb761) (Zb (ag_ HB gb761) (Zb (n1_ BK752 gb761) (n2_ BK752 gb761))))));clear BK752 HB;obtain ⟨BK752,HB,BK761,GW761,GE761,NB752_761,NB761_752⟩:=n_;clear hb hbox hg;have hnb24:=NB761_752.out;have hnc24:=NB752_761.out;obtain ⟨hcz25_0,hfz25_0,hcz25_1,hfz25_1,hcz25_2,hfz25_2,hcz25_3,hfz25_3,hcz25_4,hfz25_4⟩:=bc5_ BK761.out;obtain ⟨hcz26_0,hfz26_0,hcz26_1,hfz26_1,hcz26_2,hfz26_2⟩:=bc3_ BK752.out)|((with_reducible refine abz (f:=51) rfl ?_);refine gl_ (some 38) Tryz.func51 #[.agg #[.int .i64 a0_0, .int .i64 a0_1, .int .i64 a0_2]] ?_;(with_reducible refine (brz.calls kj2 a0_0 a0_1 a0_2 t762 t765 _ A20.out).mono ?_);rintro e w27 ⟨v763,rfl,ho0,hb⟩;refine ⟨_,rfl,?_⟩;have n_:=Zb (Za (Kd.V_lower (Kd.djz (ok':=fun k_=>k_≠gb752/\k_≠gb761) ho0 (fun k_ hk_=>⟨(Kd.freshB (g:=gb752) (o:= .cells #[.int .i64 a0_0, .int .i64 a0_1, .int .i64 a0_2] 23 (0,0)) kb_ k_ hk_),(Kd.freshB (g:=gb761) (o:= .cells #[.string t755, .int .i64 t756, .int .u32 t757, .int .u8 t758, .int .i64 t759] 79 (0,0)) kb_ k_ hk_)⟩)) (acz bl_))) (Zb (Za (aLz (g:=gb752) (o:= .cells #[.int .i64 a0_0, .int .i64 a0_1, .int .i64 a0_2] 23 (0,0)) kb_ hb)) (Zb (Za (aLz (g:=gb761) (o:= .cells #[.string t755, .int .i64 t756, .int .u32 t757, .int .u8 t758, .int .i64 t759] 79 (0,0)) kb_ hb)) (hs_ HB hb)));clear BK752 BK761 HB;obtain ⟨HO764,BK752,BK761,HB⟩:=n_;clear hb ho0))
   go_loopg [10,11] kj2 (fun kq v10 v11 w'=> ∃(x10_2:List (List Int)) (x11_2:Int),v11= .int .i64 x11_2/\Aside0 (arz.l0 kq l1 t762 x10_2 x11_2 t755 t756 t757 t758 t759=some (r1,r2))/\Aside0 (kq<=kj2)/\Aside0 (Kd.V (Kd.slice 3 (Kd.int .i64)) 57 w' w.heap.size (fun k_=>some k_≠(v10:Value).ownBlock/\k_≠gb752/\k_≠gb761) v763 t762)/\Aside0 (Kd.S (Kd.slice 5 (Kd.int .u8)) 34 w' w.heap.size (fun _=>True) v10 x10_2)/\Aside0 (w'.heap[gb752]?=some (.cells #[.int .i64 a0_0, .int .i64 a0_1, .int .i64 a0_2] 23 (0,0)))/\Aside0 (w'.heap[gb761]?=some (.cells #[.string t755, .int .i64 t756, .int .u32 t757, .int .u8 t758, .int .i64 t759] 79 (0,0)))/\Aside0 (Below w.heap.size w w'))
   case atStart=>exact ⟨(([] :List (List Int))),(0),sd_,H',⟨Zv _⟩,⟨vm_ HO764⟩,⟨nl_⟩,⟨bk_⟩,⟨bk_⟩,⟨bl_⟩⟩
   clear H'
   try clear c1
   try clear c2
   try clear p2
   try clear c4
   try clear c5
   try clear c6
   try clear c7
   try clear c7b0
   try clear c7b1
   try clear c18
   try clear c20
   try clear c24
   try clear hcz11_0
   try clear hcz11_1
   try clear hcz11_2
   try clear hcz13_0
   try clear hcz13_1
   try clear hcz13_2
   try clear hcz15_0
   try clear hcz15_1
   try clear hcz15_2
   try clear hcz16_0
   try clear hcz16_1
   try clear hcz16_2
   try clear hcz21_0
   try clear hcz21_1
   try clear hcz21_2
   try clear hcz25_0
   try clear hcz25_1
   try clear hcz25_2
   try clear hcz25_3
   try clear hcz25_4
   try clear hcz26_0
   try clear hcz26_1
   try clear hcz26_2
   try clear hcz9_0
   try clear hcz9_1
   try clear hcz9_2
   try clear hfz11_0
   try clear hfz11_1
   try clear hfz11_2
   try clear hfz13_0
   try clear hfz13_1
   try clear hfz13_2
   try clear hfz15_0
   try clear hfz15_1
   try clear hfz15_2
   try clear hfz16_0
   try clear hfz16_1
   try clear hfz16_2
   try clear hfz21_0
   try clear hfz21_1
   try clear hfz21_2
   try clear hfz25_0
   try clear hfz25_1
   try clear hfz25_2
   try clear hfz25_3
   try clear hfz25_4
   try clear hfz26_0
   try clear hfz26_1
   try clear hfz26_2
   try clear hfz9_0
   try clear hfz9_1
   try clear hfz9_2
   try clear p2
   obtain ⟨x10_2,x11_2,rfl,HA,HK2,HO_8,HO_10,BK752,BK761,HB⟩:=hrel;rcases gk with _|k2
   ·exact Yf HA.out (by simp [arz.l0])
   have H:=HA.out;clear HA;simp only [arz.l0] at H;by_cases c28:x11_2<(t762.length:Int)
   rotate_left
   ·rw [Yb c28] at H;have c28b0:=Ze c28;clear c28;simp only [Zx,Zy] at H;obtain ⟨rfl,rfl⟩:=H;obtain ⟨Ao37,co37,eo37⟩:=Kd.V_slice HO_8.out;subst eo37;go_wp2;go_ret2;exact ⟨_,er_,xd_ HO_10.out,bl_⟩
   rw [Ya c28] at H;have c28b0:=Zd c28;clear c28;by_cases c29:0<=x11_2
   rotate_left
   ·rw [Yb c29] at H;exact Yf H (by simp)
   rw [Ya c29] at H;have c29b0:=Zd c29;clear c29;obtain ⟨⟨t767,t768⟩,A30,H⟩:=ob_ H
   (try dsimp only at H)
   by_cases c31:x10_2.length<5864062014805
   rotate_left
   ·rw [Yb c31] at H;exact Yf H (by simp)
   rw [Ya c31] at H;have LMc31:=Za c31;clear c31;obtain ⟨y771,hy771⟩: ∃y_:List (List Int),y_=(x10_2++ [t767]):=⟨_,rfl⟩
   first|rw [Zl, <-hy771] at H|rw [<-hy771] at H
   (try dsimp only at H)
   have Ny771:=Za hy771;clear hy771;have H':=Za H;clear H;obtain ⟨Ao32,co32,eo32⟩:=Kd.V_slice HO_8.out;subst eo32
   try go_wp2
   have n_:=Zb (Za (Kd.dkz HO_8.out)) (Zb (Za (Kd.S_drew HO_10.out)) (Zb (Za (cQz BK752.out)) (Zb (Za (cQz BK761.out)) (Za (cnz HB.out)))));clear HO_8 HO_10 BK752 BK761 HB;obtain ⟨HO_8,HO_10,BK752,BK761,HB⟩:=n_;have p766:0<=(x11_2:Int):=Zc as_;have q766:x11_2<(t762.length:Int):=Zc as_;obtain ⟨ad766,A766_0,c766_0,e766,hx766_0,hl766_0,hi766_0⟩:=at_L4 (Kd.cWz HO_8.out).2.2 x11_2 p766 q766;cases e766
   obtain ⟨ce766,hce766,hMe766,hcc766⟩:=Kd.V_get HO_8.out [] x11_2 p766 (by first|exact q766|exact Zc as_|(have e_:=(Kd.cWz HO_8.out).1;omega));obtain ⟨ua766_0,uc766_0,rfl,ul766_0,ge766_0⟩:=Kd.cEz hMe766;have hv766_0:=hcc766 0 _ rfl;rw [Nat.add_zero,show ((Kd.slice 3 (Kd.int .i64))).sz=1 from rfl,Nat.mul_one] at hv766_0;replace hv766_0:=Zn (hv766_0.symm.trans hx766_0);injection hv766_0 with hva_ hvn_ hvc_
   rw [hva_] at ge766_0;rw [hvc_] at ul766_0;have HL766_0:=Za (show Kd.V (Kd.int .i64) 3 _ w.heap.size _ _ (rd_L4 t762 x11_2) from Kd.V_mk ul766_0 ge766_0);clear hva_ hvn_ hvc_ ge766_0 ul766_0;clear hcc766 hce766;have HR766_0:=Za hi766_0;have HC766_0:=Za hl766_0;clear hi766_0 hl766_0;replace p766:=Zz p766;replace q766:=Zz q766;refine bXz (n:=15) (S:=fun w'=>w'.cell? ⟨gb761,0,none⟩=some (.string t755)/\w'.cell? ⟨gb761,1,none⟩=some (.int .i64 t756)/\w'.cell? ⟨gb761,2,none⟩=some (.int .u32 t757)/\w'.cell? ⟨gb761,3,none⟩=some (.int .u8 t758)/\w'.cell? ⟨gb761,4,none⟩=some (.int .i64 t759)/\w'.cell? (ad766.add (x11_2).toNat)=some (.slice A766_0 (rd_L4 t762 x11_2).length c766_0)) (ds:= []) (bA 15 0) kr_ rfl rfl ⟨(aez BK761.out 0).trans rfl,(aez BK761.out 1).trans rfl,(aez BK761.out 2).trans rfl,(aez BK761.out 3).trans rfl,(aez BK761.out 4).trans rfl,hx766_0⟩ (fun hHeld=> ?_);refine cUz arz.tab9 arz.bits9 (fun HT_ HW_=> ?_)
   generalize wr.drew=w33 at HO_8 HO_10 BK752 BK761 HB HL766_0 HR766_0 hx766_0 hHeld|-;refine pv_ 0 48 1 HT_ ?_;refine pv_ 2 50 5 HT_ ?_;refine pv_ 4 52 21 HT_ ?_;refine pv_ 5 53 53 HT_ ?_;refine pv_ 6 54 117 HT_ ?_;refine pv_ 8 56 373 HT_ ?_;refine tw_ 1 49 375 HT_ HW_ hHeld ?_;refine tw_ 3 51 383 HT_ HW_ hHeld ?_;refine tw_ 7 55 511 HT_ HW_ hHeld ?_;refine one_ (i:=9) (N:=some 57) (bA 15 1023) rfl rfl (cZz HT_.out kr_) (by decide) (fun K hK=> ?_);refine goes_ Tryz.func52 kr_ rfl #[.int .i64 t756, .int .u32 t757, .slice A766_0 (rd_L4 t762 x11_2).length c766_0, .slice A1 l1.length c1] (by rfl) rfl rfl ar_ ?_
   with_reducible refine (amz.calls k2 t756 t757 _ _ (rd_L4 t762 x11_2) _ _ l1 t767 t768 _ ?side1 ?side2 ?side3 ?side4 A30.out).mono ?_
   (case side1=>repeat (first|exact (by repeat (first|(with_reducible exact HR766_0.out)|(with_reducible refine Kd.b2z ?_ _)|(with_reducible refine Kd.bzz ?_ _)|(with_reducible refine Kd.ckz ?_)|exact HR766_0.out))|(with_reducible refine Kd.b2z ?_ _)|(with_reducible refine Kd.bzz ?_ _)|(with_reducible refine Kd.ckz ?_)))
   (case side2=>exact HC766_0.out)
   (case side3=>repeat (first|exact (Kd.aMz HR1.out HB.out)|(with_reducible refine Kd.b2z ?_ _)|(with_reducible refine Kd.bzz ?_ _)|(with_reducible refine Kd.ckz ?_)))
   (case side4=>exact HC1.out)
   rintro e w34 ⟨v769,rfl,ho0,hb⟩;have HS5_:=(hb.cell (Zj _ _ (hHeld.2.2.2.2.2))).trans (hHeld.2.2.2.2.2);refine ⟨_,rfl,?_⟩;have n_:=Zb (Za (Kd.dqz (xd_ HO_8.out) (Kd.chz ho0) hb)) (Zb (Za (Kd.S_elder' (xd_ HO_10.out) (Kd.chz ho0) hb)) (Zb (Za (Kd.dqz (by (with_reducible repeat (first|apply Kd.dez|apply Kd.dfz|apply Kd.dkz));exact HL766_0.out) (Kd.chz ho0) hb)) (Zb (Za (Kd.bGz ho0 (acz bl_))) (Zb (bb_ BK752 hb) (Zb (bb_ BK761 hb) (Zb (Za (Kd.aMz (by repeat (first|(with_reducible exact HR766_0.out)|(with_reducible refine Kd.b2z ?_ _)|(with_reducible refine Kd.bzz ?_ _)|(with_reducible refine Kd.ckz ?_)|exact HR766_0.out)) hb)) (hs_ HB hb)))))));clear HO_8 HO_10 HL766_0 BK752 BK761 HR766_0 HB;obtain ⟨HO_8,HO_10,HL766_0,HO770,BK752,BK761,HR766_0,HB⟩:=n_
   (try clear hb)
   (try clear hb2)
   (try clear hk)
   (try clear hi)
   (try clear ho0)
   refine hK.out _ _ ⟨(aez BK761.out 0).trans rfl,(aez BK761.out 1).trans rfl,(aez BK761.out 2).trans rfl,(aez BK761.out 3).trans rfl,(aez BK761.out 4).trans rfl,HS5_⟩ (fun hHeld=> ?_);clear hK K;refine norm_ (a':= ?_) ?_ ?_;rotate_left
   ·show Act.put _ (some 57) _=_;simp only [Act.put,Zg,Zh,Zi,i64_w,i32_w];rfl
   refine pv_ 10 47 2047 HT_ ?_;refine pv_ 11 58 4095 HT_ ?_;refine pv_ 12 59 8191 HT_ ?_;refine pv_ 13 12 16383 HT_ ?_;refine pv_ 14 13 32767 HT_ ?_;refine done_ (dyz HT_.out kr_) ?_;obtain ⟨Ao36,co36,eo36⟩:=Kd.a7z HO770.out;subst eo36
   try go_wp2_with (first|((with_reducible refine anz (b:= .append) (xs:= #[.tmp 60, .tmp 62]) rfl ?_);(try (refine a5z (by rfl) ?_;dsimp only));at_builtin;refine Kd.bPz (Kd.slice 5 (Kd.int .u8)) (w0:=w) w.heap.size rfl (.tmp 60) (.tmp 62) 24 34 (.slice none 0 0) 24 rfl Tryz.underlying24 info34 rfl (by decide) (by omega) u10 x10_2 t767 [.slice Ao36 t767.length co36] (fun _=>True) (fun k_=>some k_=(.slice Ao36 t767.length co36:Value).ownBlock) rfl rfl ?aP (fun k_ hk_=>((Kd.aQz (ok':=fun k_=>((fun _=>True)) k_/\some k_≠(u10:Value).ownBlock) (Kd.bpz (HO770.out) (Kd.bBz HO_10.out) (by decide)) (fun k_ hk=>⟨trivial,hk.2⟩))).1 k_ hk_.symm) ?aF ?aO ?aB ?aS ?aL ?_;(case aP=>exact Kd.M_row (Kd.aQz (Kd.b3z rfl (Kd.aQz (ok':=fun k_=>((fun _=>True)) k_/\some k_≠(u10:Value).ownBlock) (Kd.bpz (HO770.out) (Kd.bBz HO_10.out) (by decide)) (fun k_ hk=>⟨trivial,hk.2⟩))) (fun _ h_=>h_)));(case aB=>exact bl_);(case aF=>exact (fun _ _=>trivial));(case aO=>exact (sm_ HO_10));(case aS=>exact (acz bl_));(case aL=>have:=LMc31.out;omega);intro v772 w35 ho hb hg hat;rw [<-Ny771.out] at ho;have n_:=Zb (Za (Kd.c6z (ok:=(fun k_=>some k_≠(.slice Ao36 t767.length co36:Value).ownBlock/\k_≠gb752/\k_≠gb761)) (vm_ HO_8) hg hat)) (Zb (Za (czz (g:=gb752) (o:= .cells #[.int .i64 a0_0, .int .i64 a0_1, .int .i64 a0_2] 23 (0,0)) bk_ hg (Kd.S_ne HO_10.out BK752.out (by decide)))) (Zb (Za (czz (g:=gb761) (o:= .cells #[.string t755, .int .i64 t756, .int .u32 t757, .int .u8 t758, .int .i64 t759] 79 (0,0)) bk_ hg (Kd.S_ne HO_10.out BK761.out (by decide)))) (Zb (Za (Kd.c6z (ok:=(fun k_=>some k_≠(.slice Ao36 t767.length co36:Value).ownBlock/\k_≠gb752/\k_≠gb761)) (by (with_reducible repeat (first|apply Kd.dez|apply Kd.dfz|apply Kd.dkz));exact Kd.djz HL766_0.out (fun _ hk=>⟨⟨hk.2,⟨hk.1.2.1,hk.1.2.2⟩⟩,hk.1.1⟩)) hg hat)) (Zb (Za (hb)) (Za (ho))))));clear HO_8 BK752 BK761 HL766_0 HB HO_10 HO770;obtain ⟨HO_8,BK752,BK761,HL766_0,HB,HO773⟩:=n_;clear ho hb hg hat))
   go_roundg k2
   case measure=>have:=HJ2.out;have:=HK2.out;omega
   case rel=>exact ⟨(y771),(wrap64 (x11_2+1)),sd_,H',⟨by have:=HJ2.out;have:=HK2.out;omega⟩,⟨vm_ HO_8⟩,⟨xd_ HO773.out⟩,⟨bk_⟩,⟨bk_⟩,⟨bl_⟩⟩
def bsz.f (a0_0:Int) (a0_1:Int) (a0_2:Int):Option (Int):=(aRz.f a0_0).bind fun bt804=>(some bt804.2.2.2.1)
theorem bsz.calls (a0_0 : Int) (a0_1 : Int) (a0_2 : Int) (r : Int) (w : World) (h : bsz.f a0_0 a0_1 a0_2 = some r) :
  Calls Tryz.prog 136 #[.agg #[.int .i64 a0_0, .int .i64 a0_1, .int .i64 a0_2]] w fun e w'=>e= .returned (.int .u8 r)/\Below w.heap.size w w':=by
 have hu23:=Tryz.underlying23;have hu79:=Tryz.underlying79;have HB:=Za (Zw w.heap.size w);have H:=h;clear h;unfold bsz.f at H;obtain ⟨⟨t804,t805,t806,t807,t808,t809⟩,A2,H⟩:=ob_ H
 (try dsimp only at H)
 obtain rfl:=Zn H;go_enter Tryz.func136,Tryz.ntmps136
 go_wp2_with (first|((with_reducible refine aUz (N:=1) rfl ?_);refine bx_ 1 #[.int .i64 a0_0, .int .i64 a0_1, .int .i64 a0_2] 23 ?_;intro gb803 hg w3 hbox hb;have n_:=Zb (hs_ HB hb) (Zb (Za (hbox)) (Zb (ag_ HB gb803) (ag_ HB gb803)));clear HB;obtain ⟨HB,BK803,GW803,GE803⟩:=n_;clear hb hbox hg;obtain ⟨hcz4_0,hfz4_0,hcz4_1,hfz4_1,hcz4_2,hfz4_2⟩:=bc3_ BK803.out)|((with_reducible refine abz (f:=50) rfl ?_);refine gl_ (some 8) Tryz.func50 #[.int .i64 a0_0] ?_;(with_reducible refine (aRz.calls a0_0 t804 t805 t806 t807 t808 t809 _ A2.out).mono ?_);rintro e w5 ⟨rfl,hb⟩;refine ⟨_,rfl,?_⟩;have n_:=Zb (bb_ BK803 hb) (hs_ HB hb);clear BK803 HB;obtain ⟨BK803,HB⟩:=n_;(try clear hb))|((with_reducible refine aUz (N:=3) rfl ?_);refine b4z ?hg (N:=3) ?hd (cs:= #[.string (⟨#[]⟩:ByteArray), .int .i64 0, .int .u32 0, .int .u8 0, .int .i64 0]) (t:=79) ?hr ?_;(case hd=>rfl);(case hg=>rfl);(case hr=>first|(go_simp;done)|(go_simp;rfl));intro gb810 hg w6 hbox hb;have n_:=Zb (bb_ BK803 hb) (Zb (hs_ HB hb) (Zb (Za (hbox)) (Zb (ag_ HB gb810) (Zb (ag_ HB gb810) (Zb (n1_ BK803 gb810) (n2_ BK803 gb810))))));clear BK803 HB;obtain ⟨BK803,HB,BK810,GW810,GE810,NB803_810,NB810_803⟩:=n_;clear hb hbox hg;have hnb7:=NB810_803.out;have hnc7:=NB803_810.out;obtain ⟨hcz8_0,hfz8_0,hcz8_1,hfz8_1,hcz8_2,hfz8_2,hcz8_3,hfz8_3,hcz8_4,hfz8_4⟩:=bc5_ BK810.out))
 go_ret;exact ⟨er_,bl_⟩
def bZz.f (a0:Int):Option (Int):=if a0=106 then (some 8) else (if a0=105 then (some 16) else (some 1))
theorem bZz.calls (a0 : Int) (r : Int) (w : World) (h : bZz.f a0 = some r) :
  Calls Tryz.prog 137 #[.int .u8 a0] w fun e w'=>e= .returned (.int .i64 r)/\Drawn0 w w':=by
 have H:=h;clear h;unfold bZz.f at H;by_cases c2:a0=106
 ·rw [Ya c2] at H;have c2b0:(a0==106)=true:=Ye c2;have c2b1:(a0 !=106)=false:=Yc c2;clear c2;obtain rfl:=Zn H;go_enter Tryz.func137,Tryz.ntmps137;go_wp2;go_ret;exact ⟨sd_,dn_⟩
 ·rw [Yb c2] at H;have c2b0:(a0==106)=false:=Zq c2;have c2b1:(a0 !=106)=true:=Yd c2;by_cases c3:a0=105
  ·rw [Ya c3] at H;have c3b0:(a0==105)=true:=Ye c3;have c3b1:(a0 !=105)=false:=Yc c3;clear c3;obtain rfl:=Zn H;go_enter Tryz.func137,Tryz.ntmps137;go_wp2;go_ret;exact ⟨sd_,dn_⟩
  ·rw [Yb c3] at H;have c3b0:(a0==105)=false:=Zq c3;have c3b1:(a0 !=105)=true:=Yd c3;obtain rfl:=Zn H;go_enter Tryz.func137,Tryz.ntmps137;go_wp2;go_ret;exact ⟨sd_,dn_⟩
mutual
def ayz.j0:Nat->Int->Bool->Int->Int->Int->Option (Int×Int)
 |0,_,_,_,_,_=>none
 |k+1,x1,x13,x812000,x812001,x812002=>if x13=true then (some (0,1)) else (if x1>4096 then (some (0,11)) else ((bsz.f x812000 x812001 x812002).bind fun t813=>(if t813=98 then (ayz.j1 k (wrap64 (x1+4)) x812000 x812001 x812002) else (ayz.j1 k x1 x812000 x812001 x812002))))
def ayz.j1:Nat->Int->Int->Int->Int->Option (Int×Int)
 |0,_,_,_,_=>none
 |k+1,x1,x812000,x812001,x812002=>(bsz.f x812000 x812001 x812002).bind fun t814=>((bZz.f t814).bind fun t815=>(ayz.l0 k x1 t815 x812000 x812001 x812002))
def ayz.l0:Nat->Int->Int->Int->Int->Int->Option (Int×Int)
 |0,_,_,_,_,_=>none
 |k+1,x1,x6,x812000,x812001,x812002=>if (wrap64 (x6*x812001))<x1 then ((bsz.f x812000 x812001 x812002).bind fun t816=>((bZz.f t816).bind fun t817=>(ayz.l0 k x1 (wrap64 (x6+t817)) x812000 x812001 x812002))) else (some (x6,0))
end
def ayz.f (k:Nat) (a0_0:Int) (a0_1:Int) (a0_2:Int) (a1:Int):Option (Int×Int):=(biz.f a0_0 a0_1 a0_2).bind fun t812=>(if t812=true then (ayz.j0 k a1 (decide (a1<0)) a0_0 a0_1 a0_2) else (ayz.j0 k a1 true a0_0 a0_1 a0_2))
theorem ayz.calls (k : Nat) (a0_0 : Int) (a0_1 : Int) (a0_2 : Int) (a1 : Int) (r1 : Int) (r2 : Int) (w : World) (h : ayz.f k a0_0 a0_1 a0_2 a1 = some (r1, r2)) :
  Calls Tryz.prog 91 #[.agg #[.int .i64 a0_0, .int .i64 a0_1, .int .i64 a0_2], .int .i64 a1] w fun e w'=>e= .returned (.tuple #[.int .i64 r1, .int .i64 r2])/\Below w.heap.size w w':=by
 have hu23:=Tryz.underlying23;have HB:=Za (Zw w.heap.size w);have H:=h;clear h;unfold ayz.f at H;have HC3:=Za H;clear H;go_enter Tryz.func91,Tryz.ntmps91
 go_upto_region 1 with (first|((with_reducible refine aUz (N:=2) rfl ?_);refine bx_ 2 #[.int .i64 a0_0, .int .i64 a0_1, .int .i64 a0_2] 23 ?_;intro gb811 hg w4 hbox hb;have n_:=Zb (hs_ HB hb) (Zb (Za (hbox)) (Zb (ag_ HB gb811) (ag_ HB gb811)));clear HB;obtain ⟨HB,BK811,GW811,GE811⟩:=n_;clear hb hbox hg))
 (try simp only [Act.put,Zg,Zh,Zi])
 go_cut [13] (fun v13 wc=> ∃(kq:Nat) (x13_2:Bool),v13= .bool x13_2/\Aside0 (ayz.j0 kq a1 x13_2 a0_0 a0_1 a0_2=some (r1,r2))/\Aside0 (kq<=k)/\Aside0 (wc.heap[gb811]?=some (.cells #[.int .i64 a0_0, .int .i64 a0_1, .int .i64 a0_2] 23 (0,0)))/\Aside0 (Below w.heap.size w wc))
 case first=>
  have H:=HC3.out;clear HC3;obtain ⟨t812,A5,H⟩:=ob_ H
  (try dsimp only at H)
  by_cases c6:t812=true
  ·subst c6;rw [Ya rfl] at H;have H':=Za H;clear H;obtain ⟨hcz7_0,hfz7_0,hcz7_1,hfz7_1,hcz7_2,hfz7_2⟩:=bc3_ BK811.out
   go_wp2_with (first|((with_reducible refine abz (f:=48) rfl ?_);refine gl_ (some 8) Tryz.func48 #[.agg #[.int .i64 a0_0, .int .i64 a0_1, .int .i64 a0_2]] ?_;(with_reducible refine (biz.calls a0_0 a0_1 a0_2 true _ A5.out).mono ?_);rintro e w8 ⟨rfl,hb⟩;refine ⟨_,rfl,?_⟩;have n_:=Zb (bb_ BK811 hb) (hs_ HB hb);clear BK811 HB;obtain ⟨BK811,HB⟩:=n_;(try clear hb)))
   go_meet
   case rel=>exact ⟨_,(decide (a1<0)),sd_,H',⟨by first|omega|exact Zv _⟩,⟨bk_⟩,⟨bl_⟩⟩
  ·replace c6:=Zr c6;subst c6;rw [Yb (show¬(false=true) by decide)] at H;have H':=Za H;clear H;obtain ⟨hcz9_0,hfz9_0,hcz9_1,hfz9_1,hcz9_2,hfz9_2⟩:=bc3_ BK811.out
   go_wp2_with (first|((with_reducible refine abz (f:=48) rfl ?_);refine gl_ (some 8) Tryz.func48 #[.agg #[.int .i64 a0_0, .int .i64 a0_1, .int .i64 a0_2]] ?_;(with_reducible refine (biz.calls a0_0 a0_1 a0_2 false _ A5.out).mono ?_);rintro e w10 ⟨rfl,hb⟩;refine ⟨_,rfl,?_⟩;have n_:=Zb (bb_ BK811 hb) (hs_ HB hb);clear BK811 HB;obtain ⟨BK811,HB⟩:=n_;(try clear hb)))
   go_meet
   case rel=>exact ⟨_,(true),sd_,H',⟨by first|omega|exact Zv _⟩,⟨bk_⟩,⟨bl_⟩⟩
 case rest=>
  clear HC3
  try clear p2
  try clear c4
  try clear c6
  try clear c9
  try clear hcz7_0
  try clear hcz7_1
  try clear hcz7_2
  try clear hcz9_0
  try clear hcz9_1
  try clear hcz9_2
  try clear hfz7_0
  try clear hfz7_1
  try clear hfz7_2
  try clear hfz9_0
  try clear hfz9_1
  try clear hfz9_2
  obtain ⟨kq,x13_2,rfl,HA,HJ2,BK811,HB⟩:=hcut;rcases kq with _|kj2
  ·exact Yf HA.out (by simp [ayz.j0])
  have H:=HA.out;clear HA;simp only [ayz.j0] at H;by_cases c11:x13_2=true
  ·subst c11;rw [Ya rfl] at H;simp only [Zx,Zy] at H;obtain ⟨rfl,rfl⟩:=H;go_wp2;go_ret2;exact ⟨er_,bl_⟩
  ·replace c11:=Zr c11;subst c11;rw [Yb (show¬(false=true) by decide)] at H;by_cases c12:a1>4096
   ·rw [Ya c12] at H;have c12b0:decide (4096<a1)=true:=Zd c12;clear c12;simp only [Zx,Zy] at H;obtain ⟨rfl,rfl⟩:=H;go_wp2;go_ret2;exact ⟨er_,bl_⟩
   ·rw [Yb c12] at H;have c12b0:decide (4096<a1)=false:=Ze c12;clear c12;obtain ⟨t813,A13,H⟩:=ob_ H
    (try dsimp only at H)
    have HC14:=Za H;clear H;obtain ⟨hcz15_0,hfz15_0,hcz15_1,hfz15_1,hcz15_2,hfz15_2⟩:=bc3_ BK811.out
    go_upto_if 18 with (first|((with_reducible refine abz (f:=136) rfl ?_);refine gl_ (some 17) Tryz.func136 #[.agg #[.int .i64 a0_0, .int .i64 a0_1, .int .i64 a0_2]] ?_;(with_reducible refine (bsz.calls a0_0 a0_1 a0_2 t813 _ A13.out).mono ?_);rintro e w16 ⟨rfl,hb⟩;refine ⟨_,rfl,?_⟩;have n_:=Zb (bb_ BK811 hb) (hs_ HB hb);clear BK811 HB;obtain ⟨BK811,HB⟩:=n_;(try clear hb)))
    (try simp only [Act.put,Zg,Zh,Zi])
    go_cut [1] (fun v1 wc=> ∃(kq:Nat) (x1_13:Int),v1= .int .i64 x1_13/\Aside0 (ayz.j1 kq x1_13 a0_0 a0_1 a0_2=some (r1,r2))/\Aside0 (kq<=kj2)/\Aside0 (wc.heap[gb811]?=some (.cells #[.int .i64 a0_0, .int .i64 a0_1, .int .i64 a0_2] 23 (0,0)))/\Aside0 (Below w.heap.size w wc))
    case first=>
     have H:=HC14.out;clear HC14;by_cases c17:t813=98
     ·rw [Ya c17] at H;have c17b0:(t813==98)=true:=Ye c17;have c17b1:(t813 !=98)=false:=Yc c17;clear c17
      (first|rw [c17b0] |(simp only [i64_w,i32_w];rw [c17b0])|skip)
      have H':=Za H;clear H;go_wp2
      go_meet
      case rel=>exact ⟨_,(wrap64 (a1+4)),sd_,H',⟨by have:=HJ2.out;first|omega|exact Zv _⟩,⟨bk_⟩,⟨bl_⟩⟩
     ·rw [Yb c17] at H;have c17b0:(t813==98)=false:=Zq c17;have c17b1:(t813 !=98)=true:=Yd c17
      (first|rw [c17b0] |(simp only [i64_w,i32_w];rw [c17b0])|skip)
      have H':=Za H;clear H;go_wp2
      go_meet
      case rel=>exact ⟨_,(a1),sd_,H',⟨by have:=HJ2.out;first|omega|exact Zv _⟩,⟨bk_⟩,⟨bl_⟩⟩
    case rest=>
     clear HC14
     try clear c1
     try clear p2
     try clear c4
     try clear c6
     try clear p6
     try clear c9
     try clear c11
     try clear c12
     try clear c12b0
     try clear c13
     try clear c17
     try clear c17b0
     try clear c17b1
     try clear hcz15_0
     try clear hcz15_1
     try clear hcz15_2
     try clear hcz7_0
     try clear hcz7_1
     try clear hcz7_2
     try clear hcz9_0
     try clear hcz9_1
     try clear hcz9_2
     try clear hfz15_0
     try clear hfz15_1
     try clear hfz15_2
     try clear hfz7_0
     try clear hfz7_1
     try clear hfz7_2
     try clear hfz9_0
     try clear hfz9_1
     try clear hfz9_2
     try clear p2
     obtain ⟨kq,x1_13,rfl,HA,HJ13,BK811,HB⟩:=hcut;rcases kq with _|kj13
     ·exact Yf HA.out (by simp [ayz.j1])
     have H:=HA.out;clear HA;simp only [ayz.j1] at H;obtain ⟨t814,A18,H⟩:=ob_ H
     (try dsimp only at H)
     obtain ⟨t815,A19,H⟩:=ob_ H
     (try dsimp only at H)
     have H':=Za H;clear H;obtain ⟨hcz20_0,hfz20_0,hcz20_1,hfz20_1,hcz20_2,hfz20_2⟩:=bc3_ BK811.out
     go_wp2_with (first|((with_reducible refine abz (f:=136) rfl ?_);refine gl_ (some 22) Tryz.func136 #[.agg #[.int .i64 a0_0, .int .i64 a0_1, .int .i64 a0_2]] ?_;(with_reducible refine (bsz.calls a0_0 a0_1 a0_2 t814 _ A18.out).mono ?_);rintro e w21 ⟨rfl,hb⟩;refine ⟨_,rfl,?_⟩;have n_:=Zb (bb_ BK811 hb) (hs_ HB hb);clear BK811 HB;obtain ⟨BK811,HB⟩:=n_;(try clear hb))|((with_reducible refine abz (f:=137) rfl ?_);refine gl_ (some 23) Tryz.func137 #[.int .u8 t814] ?_;(with_reducible refine (bZz.calls t814 t815 _ A19.out).mono ?_);rintro e w' ⟨rfl,⟨nd,rfl⟩⟩;refine ⟨_,rfl,?_⟩))
     go_loopg [6] kj13 (fun kq v6 w'=> ∃(x6_3:Int),v6= .int .i64 x6_3/\Aside0 (ayz.l0 kq x1_13 x6_3 a0_0 a0_1 a0_2=some (r1,r2))/\Aside0 (kq<=kj13)/\Aside0 (w'.heap[gb811]?=some (.cells #[.int .i64 a0_0, .int .i64 a0_1, .int .i64 a0_2] 23 (0,0)))/\Aside0 (Below w.heap.size w w'))
     case atStart=>exact ⟨(t815),sd_,H',⟨Zv _⟩,⟨bk_⟩,⟨bl_⟩⟩
     clear H'
     try clear c1
     try clear p2
     try clear c4
     try clear c6
     try clear p6
     try clear c9
     try clear c11
     try clear c12
     try clear c12b0
     try clear c13
     try clear c17
     try clear c17b0
     try clear c17b1
     try clear hcz15_0
     try clear hcz15_1
     try clear hcz15_2
     try clear hcz20_0
     try clear hcz20_1
     try clear hcz20_2
     try clear hcz7_0
     try clear hcz7_1
     try clear hcz7_2
     try clear hcz9_0
     try clear hcz9_1
     try clear hcz9_2
     try clear hfz15_0
     try clear hfz15_1
     try clear hfz15_2
     try clear hfz20_0
     try clear hfz20_1
     try clear hfz20_2
     try clear hfz7_0
     try clear hfz7_1
     try clear hfz7_2
     try clear hfz9_0
     try clear hfz9_1
     try clear hfz9_2
     try clear p2
     try clear p6
     obtain ⟨x6_3,rfl,HA,HK3,BK811,HB⟩:=hrel;rcases gk with _|k3
     ·exact Yf HA.out (by simp [ayz.l0])
     have H:=HA.out;clear HA;simp only [ayz.l0] at H;by_cases c22:(wrap64 (x6_3*a0_1))<x1_13
     rotate_left
     ·rw [Yb c22] at H;have c22b0:=Ze c22;clear c22;simp only [Zx,Zy] at H;obtain ⟨rfl,rfl⟩:=H;obtain ⟨hcz27_0,hfz27_0,hcz27_1,hfz27_1,hcz27_2,hfz27_2⟩:=bc3_ BK811.out;go_wp2;go_ret2;exact ⟨er_,bl_⟩
     rw [Ya c22] at H;have c22b0:=Zd c22;clear c22;obtain ⟨t816,A23,H⟩:=ob_ H
     (try dsimp only at H)
     obtain ⟨t817,A24,H⟩:=ob_ H
     (try dsimp only at H)
     have H':=Za H;clear H;obtain ⟨hcz25_0,hfz25_0,hcz25_1,hfz25_1,hcz25_2,hfz25_2⟩:=bc3_ BK811.out
     go_wp2_with (first|((with_reducible refine abz (f:=136) rfl ?_);refine gl_ (some 32) Tryz.func136 #[.agg #[.int .i64 a0_0, .int .i64 a0_1, .int .i64 a0_2]] ?_;(with_reducible refine (bsz.calls a0_0 a0_1 a0_2 t816 _ A23.out).mono ?_);rintro e w26 ⟨rfl,hb⟩;refine ⟨_,rfl,?_⟩;have n_:=Zb (bb_ BK811 hb) (hs_ HB hb);clear BK811 HB;obtain ⟨BK811,HB⟩:=n_;(try clear hb))|((with_reducible refine abz (f:=137) rfl ?_);refine gl_ (some 33) Tryz.func137 #[.int .u8 t816] ?_;(with_reducible refine (bZz.calls t816 t817 _ A24.out).mono ?_);rintro e w' ⟨rfl,⟨nd,rfl⟩⟩;refine ⟨_,rfl,?_⟩))
     go_roundg k3
     case measure=>have:=HJ2.out;have:=HJ13.out;have:=HK3.out;omega
     case rel=>exact ⟨(wrap64 (x6_3+t817)),sd_,H',⟨by have:=HJ2.out;have:=HJ13.out;have:=HK3.out;omega⟩,⟨bk_⟩,⟨bl_⟩⟩
end Go.Proofs.Xc
end
