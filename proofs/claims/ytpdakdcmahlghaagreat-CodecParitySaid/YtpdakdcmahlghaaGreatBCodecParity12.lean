-- Joined texts of this work (wip/tools/bundle.py).
import Derived.RegionCalls
import Derived.Tactics2
import Derived.Defers
import Derived.Laws.Pointers
import Derived.Laws.LoneSync
import Derived.ChangeAlike
import Derived.Laws.NewBlocks
import Derived.Laws.CopyOwn
import Derived.Test.YtpdakdcmahlghaaGreatBCodecParity11
set_option maxHeartbeats 8000000
set_option maxRecDepth 100000
set_option linter.unusedVariables false
set_option linter.unusedSimpArgs false
section
namespace Go.Proofs.Xc
open Go.RowKit Go.Proofs.Pw Go.Proofs.Pl Go.Proofs.Pm
attribute [local go_sem] bfz bgz boz bpz a5z a6z bhz biz
def axz.j0:Nat->List (List Int)->Bool->Int->Int->Int->Option (Bool)
 |0,_,_,_,_,_=>none
 |k+1,x1,x19,x775000,x775001,x775002=>if x19=true then (some false) else (if 0<=x775001 then (if x775001<=(x1.length:Int) then ((aoz.f k x775000 x775001 x775002 (x1.take (x775001:Int).toNat)).bind fun bt780=>(if bt780.2=0 then ((aUz.f k bt780.1 (x1.drop (x775001:Int).toNat)).bind fun t788=>(some t788)) else (some false))) else (none)) else (none))
def axz.f (k:Nat) (a0_0:Int) (a0_1:Int) (a0_2:Int) (l1:List (List Int)):Option (Bool):=(bez.f a0_0 a0_1 a0_2).bind fun t775=>(if t775=true then (axz.j0 k l1 ((l1.length:Int) !=(wrap64 (a0_1+a0_2))) a0_0 a0_1 a0_2) else (axz.j0 k l1 true a0_0 a0_1 a0_2))
def axz.T3:Bool×List (List Nat×List Nat):=(true, [([], []),([], []),([], []),([2], [2]),([1,3], [1,3]),([0,4], [0,4]),([5], [5]),([6], [6]),([6], [6]),([7,5,0,1,2,3,4,5,6,7], [7]),([8,9,0,1,2,3,4,5,6,7,8,9], [8])])
def axz.B3:List Nat:= [0,0,0,4,14,31,63,127,127,255,1023]
theorem axz.tab3:rtab .any (opsOf Tryz.f23 3)=axz.T3:=by kernel_rfl
theorem axz.bits3:waitsOk axz.T3.2 axz.B3=true:=by kernel_rfl
theorem axz.calls (k : Nat) (a0_0 : Int) (a0_1 : Int) (a0_2 : Int) (A1 : Option Addr) (c1 : Nat) (l1 : List (List Int)) (r : Bool) (w : World) (hr1 : Kd.C (Kd.slice 5 (Kd.int .u8)) w A1 l1.length l1) (hc1 : l1.length <= c1) (h : axz.f k a0_0 a0_1 a0_2 l1 = some r) :
  Calls Tryz.prog 23 #[.agg #[.int .i64 a0_0, .int .i64 a0_1, .int .i64 a0_2], .slice A1 l1.length c1] w fun e w'=>e= .returned (.bool r)/\Below w.heap.size w w':=by
 have hu23:=Tryz.underlying23;have HR1:=Za hr1;have HC1:=Za hc1;clear hr1 hc1;have HB:=Za (Zw w.heap.size w);have H:=h;clear h;unfold axz.f at H;have HC3:=Za H;clear H;go_enter Tryz.func23,Tryz.ntmps23
 go_upto_region 1 with (first|((with_reducible refine a8z (N:=2) rfl ?_);(try (refine a0z (by rfl) ?_;dsimp only));refine bx_ 2 #[.int .i64 a0_0, .int .i64 a0_1, .int .i64 a0_2] 23 ?_;intro gb774 hg w4 hbox hb;have n_:=Zb (hs_ HB hb) (Zb (Za (hbox)) (Zb (ag_ HB gb774) (ag_ HB gb774)));clear HB;obtain ⟨HB,BK774,GW774,GE774⟩:=n_;clear hb hbox hg))
 (try simp only [Act.put,Zg,Zh,Zi])
 go_cut [19] (fun v19 wc=> ∃(kq:Nat) (x19_2:Bool),v19= .bool x19_2/\Aside0 (axz.j0 kq l1 x19_2 a0_0 a0_1 a0_2=some r)/\Aside0 (kq<=k)/\Aside0 (wc.heap[gb774]?=some (.cells #[.int .i64 a0_0, .int .i64 a0_1, .int .i64 a0_2] 23 (0,0)))/\Aside0 (Below w.heap.size w wc))
 case first=>
  have H:=HC3.out;clear HC3;obtain ⟨t775,A5,H⟩:=ob_ H
  (try dsimp only at H)
  by_cases c6:t775=true
  ·subst c6;rw [Ya rfl] at H;have H':=Za H;clear H;obtain ⟨_,_,_,_,_,_⟩:=bc3_ BK774.out
   go_wp2_with (first|((with_reducible refine aaz (f:=48) rfl ?_);refine gl_ (some 8) Tryz.func48 #[.agg #[.int .i64 a0_0, .int .i64 a0_1, .int .i64 a0_2]] ?_;(with_reducible refine (bez.calls a0_0 a0_1 a0_2 true _ A5.out).mono ?_);rintro e w8 ⟨rfl,hb⟩;refine ⟨_,rfl,?_⟩;have n_:=Zb (bb_ BK774 hb) (hs_ HB hb);clear BK774 HB;obtain ⟨BK774,HB⟩:=n_;(try clear hb);obtain ⟨_,_,_,_,_,_⟩:=bc3_ BK774.out))
   go_meet
   case rel=>exact ⟨_,(((l1.length:Int) !=(wrap64 (a0_1+a0_2)))),sd_,H',⟨by first|omega|exact Zv _⟩,⟨bk_⟩,⟨bl_⟩⟩
  ·replace c6:=Zr c6;subst c6;rw [Yb (show¬(false=true) by decide)] at H;have H':=Za H;clear H;obtain ⟨_,_,_,_,_,_⟩:=bc3_ BK774.out
   go_wp2_with (first|((with_reducible refine aaz (f:=48) rfl ?_);refine gl_ (some 8) Tryz.func48 #[.agg #[.int .i64 a0_0, .int .i64 a0_1, .int .i64 a0_2]] ?_;(with_reducible refine (bez.calls a0_0 a0_1 a0_2 false _ A5.out).mono ?_);rintro e w11 ⟨rfl,hb⟩;refine ⟨_,rfl,?_⟩;have n_:=Zb (bb_ BK774 hb) (hs_ HB hb);clear BK774 HB;obtain ⟨BK774,HB⟩:=n_;(try clear hb)))
   go_meet
   case rel=>exact ⟨_,(true),sd_,H',⟨by first|omega|exact Zv _⟩,⟨bk_⟩,⟨bl_⟩⟩
 case rest=>
  clear HC3;obtain ⟨kq,x19_2,rfl,HA,HJ2,BK774,HB⟩:=hcut;rcases kq with _|kj2
  ·exact Yf HA.out (by simp [axz.j0])
  have H:=HA.out;clear HA;simp only [axz.j0] at H;by_cases c12:x19_2=true
  ·subst c12;rw [Ya rfl] at H;obtain rfl:=Zn H;go_wp2;go_ret;exact ⟨er_,bl_⟩
  ·replace c12:=Zr c12;subst c12;rw [Yb (show¬(false=true) by decide)] at H;by_cases c13:0<=a0_1
   rotate_left
   ·rw [Yb c13] at H;exact Yf H (by simp)
   rw [Ya c13] at H;have c13b0:=Zz c13;have c13b1:=Zd c13;clear c13;by_cases c14:a0_1<=(l1.length:Int)
   rotate_left
   ·rw [Yb c14] at H;exact Yf H (by simp)
   rw [Ya c14] at H;have c14b0:=Zz c14;have c14b1:=Zd c14;clear c14;obtain ⟨y776,hy776⟩: ∃y_:List (List Int),y_=(l1.take (a0_1:Int).toNat):=⟨_,rfl⟩
   first|rw [Zl, <-hy776] at H|rw [<-hy776] at H
   (try dsimp only at H)
   have Ny776:=Za hy776;clear hy776;obtain ⟨⟨t780,t783⟩,A15,H⟩:=ob_ H
   (try dsimp only at H)
   by_cases c16:t783=0
   rotate_left
   ·rw [Yb c16] at H;have c16b0:(t783==0)=false:=Zq c16;have c16b1:(t783 !=0)=true:=Yd c16;obtain rfl:=Zn H
    try go_wp2
    have n_:=Zb (Za (cmz BK774.out)) (Za (bWz HB.out));clear BK774 HB;obtain ⟨BK774,HB⟩:=n_;have q27:(a0_1:Int)<=((l1.length:Int):Int):=Zc as_;obtain ⟨i027,hi027,_,hsz27,_⟩:=info_parts info34;have hroom27:l1.length<=c1:=HC1.out;have hC27:Kd.C (Kd.slice 5 (Kd.int .u8)) _ A1 l1.length l1:=HR1.out;have hcut27:=cut_to (P:=Tryz.prog) 24 34 .i64 Tryz.underlying24 hi027 A1 l1.length c1 a0_1 (Zc as_) q27 hroom27;have hr27:=Kd.C_take (m:=(a0_1:Int).toNat) hC27 (by omega);have hy27:y776.length=(a0_1:Int).toNat:=(by rw [Ny776.out,List.length_take];omega);rw [<-Ny776.out] at hr27;rw [<-hy27] at hcut27;have HR779:=Za hr27;have HC779:=Za (show y776.length<=c1 from by omega);clear hr27 hC27 hroom27 hi027 hsz27;have KY27:=Za hy27;clear hy27;replace q27:=Zz q27;refine bPz (n:=11) (S:=fun w'=>w'.cell? ⟨gb774,0,none⟩=some (.int .i64 a0_0)/\w'.cell? ⟨gb774,1,none⟩=some (.int .i64 a0_1)/\w'.cell? ⟨gb774,2,none⟩=some (.int .i64 a0_2)) (ds:= []) (bA 11 0) kr_ rfl rfl ⟨(abz BK774.out 0).trans rfl,(abz BK774.out 1).trans rfl,(abz BK774.out 2).trans rfl⟩ (fun hHeld=> ?_);refine crz axz.tab3 axz.bits3 (fun HT_ HW_=> ?_)
    generalize wc.drew=w26 at BK774 HB HR779 hHeld|-;refine pv_ 1 22 2 HT_ ?_;refine pv_ 2 23 6 HT_ ?_;refine tw_ 0 21 7 HT_ HW_ hHeld ?_;refine tw_ 3 24 15 HT_ HW_ hHeld ?_;refine pv_ 4 25 31 HT_ ?_;refine one_ (i:=5) (N:=some 26) (bA 11 63) rfl rfl (cqz HT_.out kr_) (by decide) (fun K hK=> ?_);refine goes_ Tryz.func20 kr_ rfl #[.agg #[.int .i64 a0_0, .int .i64 a0_1, .int .i64 a0_2], .slice A1 y776.length c1] (by rfl) rfl rfl ar_ ?_
    with_reducible refine (aoz.calls kj2 a0_0 a0_1 a0_2 _ _ y776 t780 t783 _ ?side1 ?side2 A15.out).mono ?_
    (case side1=>repeat (first|exact (Kd.aIz HR779.out HB.out)|(with_reducible refine Kd.bUz ?_ _)|(with_reducible refine Kd.bvz ?_ _)|(with_reducible refine Kd.bZz ?_)))
    (case side2=>exact HC779.out)
    rintro e w28 ⟨v781,rfl,ho0,hb⟩;refine ⟨_,rfl,?_⟩;have n_:=Zb (Za (Kd.cwz ho0 (aez bl_))) (Zb (bb_ BK774 hb) (hs_ HB hb));clear BK774 HB;obtain ⟨HO782,BK774,HB⟩:=n_
    (try clear hb)
    (try clear hb2)
    (try clear hk)
    (try clear hi)
    (try clear ho0)
    refine hK.out _ _ ⟨(abz BK774.out 0).trans rfl,(abz BK774.out 1).trans rfl,(abz BK774.out 2).trans rfl⟩ (fun hHeld=> ?_);clear hK K;refine norm_ (a':= ?_) ?_ ?_;rotate_left
    ·show Act.put _ (some 26) _=_;simp only [Act.put,Zg,Zh,Zi,i64_w,i32_w];rfl
    refine pv_ 6 20 127 HT_ ?_;refine pv_ 7 27 255 HT_ ?_;refine pv_ 8 28 511 HT_ ?_;refine pv_ 9 5 1023 HT_ ?_;refine pv_ 10 6 2047 HT_ ?_;refine done_ (cRz HT_.out kr_) ?_
    try go_wp2
    go_ret;exact ⟨er_,bl_⟩
   rw [Ya c16] at H;have c16b0:(t783==0)=true:=Ye c16;have c16b1:(t783 !=0)=false:=Yc c16;clear c16;have c17b0:=Zz (Zc as_:0<=a0_1);have c18b0:=Zz (Zc as_:a0_1<=(l1.length:Int));obtain ⟨y784,hy784⟩: ∃y_:List (List Int),y_=(l1.drop (a0_1:Int).toNat):=⟨_,rfl⟩
   first|rw [Zl, <-hy784] at H|rw [<-hy784] at H
   (try dsimp only at H)
   have Ny784:=Za hy784;clear hy784;obtain ⟨t788,A19,H⟩:=ob_ H
   (try dsimp only at H)
   obtain rfl:=Zn H
   try go_wp2
   have n_:=Zb (Za (cmz BK774.out)) (Za (bWz HB.out));clear BK774 HB;obtain ⟨BK774,HB⟩:=n_;have q21:(a0_1:Int)<=((l1.length:Int):Int):=Zc as_;obtain ⟨i021,hi021,_,hsz21,_⟩:=info_parts info34;have hroom21:l1.length<=c1:=HC1.out;have hC21:Kd.C (Kd.slice 5 (Kd.int .u8)) _ A1 l1.length l1:=HR1.out;have hcut21:=cut_to (P:=Tryz.prog) 24 34 .i64 Tryz.underlying24 hi021 A1 l1.length c1 a0_1 (Zc as_) q21 hroom21;have hr21:=Kd.C_take (m:=(a0_1:Int).toNat) hC21 (by omega);have hy21:y776.length=(a0_1:Int).toNat:=(by rw [Ny776.out,List.length_take];omega);rw [<-Ny776.out] at hr21;rw [<-hy21] at hcut21;have HR779:=Za hr21;have HC779:=Za (show y776.length<=c1 from by omega);clear hr21 hC21 hroom21 hi021 hsz21;have KY21:=Za hy21;clear hy21;replace q21:=Zz q21;refine bPz (n:=11) (S:=fun w'=>w'.cell? ⟨gb774,0,none⟩=some (.int .i64 a0_0)/\w'.cell? ⟨gb774,1,none⟩=some (.int .i64 a0_1)/\w'.cell? ⟨gb774,2,none⟩=some (.int .i64 a0_2)) (ds:= []) (bA 11 0) kr_ rfl rfl ⟨(abz BK774.out 0).trans rfl,(abz BK774.out 1).trans rfl,(abz BK774.out 2).trans rfl⟩ (fun hHeld=> ?_);refine crz axz.tab3 axz.bits3 (fun HT_ HW_=> ?_)
   generalize wc.drew=w20 at BK774 HB HR779 hHeld|-;refine pv_ 1 22 2 HT_ ?_;refine pv_ 2 23 6 HT_ ?_;refine tw_ 0 21 7 HT_ HW_ hHeld ?_;refine tw_ 3 24 15 HT_ HW_ hHeld ?_;refine pv_ 4 25 31 HT_ ?_;refine one_ (i:=5) (N:=some 26) (bA 11 63) rfl rfl (cqz HT_.out kr_) (by decide) (fun K hK=> ?_);refine goes_ Tryz.func20 kr_ rfl #[.agg #[.int .i64 a0_0, .int .i64 a0_1, .int .i64 a0_2], .slice A1 y776.length c1] (by rfl) rfl rfl ar_ ?_
   with_reducible refine (aoz.calls kj2 a0_0 a0_1 a0_2 _ _ y776 t780 t783 _ ?side1 ?side2 A15.out).mono ?_
   (case side1=>repeat (first|exact (Kd.aIz HR779.out HB.out)|(with_reducible refine Kd.bUz ?_ _)|(with_reducible refine Kd.bvz ?_ _)|(with_reducible refine Kd.bZz ?_)))
   (case side2=>exact HC779.out)
   rintro e w22 ⟨v781,rfl,ho0,hb⟩;refine ⟨_,rfl,?_⟩;have n_:=Zb (Za (Kd.cwz ho0 (aez bl_))) (Zb (bb_ BK774 hb) (hs_ HB hb));clear BK774 HB;obtain ⟨HO782,BK774,HB⟩:=n_
   (try clear hb)
   (try clear hb2)
   (try clear hk)
   (try clear hi)
   (try clear ho0)
   refine hK.out _ _ ⟨(abz BK774.out 0).trans rfl,(abz BK774.out 1).trans rfl,(abz BK774.out 2).trans rfl⟩ (fun hHeld=> ?_);clear hK K;refine norm_ (a':= ?_) ?_ ?_;rotate_left
   ·show Act.put _ (some 26) _=_;simp only [Act.put,Zg,Zh,Zi,i64_w,i32_w];rfl
   refine pv_ 6 20 127 HT_ ?_;refine pv_ 7 27 255 HT_ ?_;refine pv_ 8 28 511 HT_ ?_;refine pv_ 9 5 1023 HT_ ?_;refine pv_ 10 6 2047 HT_ ?_;refine done_ (cRz HT_.out kr_) ?_;obtain ⟨_,_,_,_,_,_⟩:=bc3_ BK774.out;have q24:(a0_1:Int)<=((l1.length:Int):Int):=Zc as_;obtain ⟨i024,hi024,_,hsz24,_⟩:=info_parts info34;have hroom24:l1.length<=c1:=HC1.out;have hC24:Kd.C (Kd.slice 5 (Kd.int .u8)) _ A1 l1.length l1:=HR1.out;have q024:(0:Int)<=(a0_1:Int):=Zc as_;have hcut24:=ebz (P:=Tryz.prog) 24 34 .i64 Tryz.underlying24 hi024 1 hsz24 A1 l1.length c1 a0_1 q024 q24;have hr24:=Kd.C_drop (m:=(a0_1:Int).toNat) (c:=c1) hC24 (by omega) hroom24;obtain ⟨A24,hA24⟩: ∃Aq_,Aq_=(if c1=(a0_1:Int).toNat then A1 else (A1:Option Addr).map (·.add ((a0_1:Int).toNat*1))):=⟨_,rfl⟩;obtain ⟨c24,hc24⟩: ∃cq_,cq_=c1 - (a0_1:Int).toNat:=⟨_,rfl⟩;have hy24:y784.length=l1.length - (a0_1:Int).toNat:=(by rw [Ny784.out,List.length_drop] <;>omega)
   rw [show (l1).drop (a0_1:Int).toNat=y784 from Ny784.out.symm] at hr24;replace hr24:Kd.C (Kd.slice 5 (Kd.int .u8)) _ A24 y784.length y784:=(by rw [hA24];exact hr24);rw [<-hy24, <-hA24, <-hc24] at hcut24;have HR787:=Za hr24;have HC787:=Za (show y784.length<=c24 from by rw [hy24,hc24];exact Nat.sub_le_sub_right hroom24 _);clear hr24 hC24 hroom24 hi024 hsz24 hc24;have KY24:=Za hy24;have KA24:=Za hA24;clear hy24 hA24;replace q24:=Zz q24;obtain ⟨Ao25,co25,eo25⟩:=Kd.S_slice HO782.out;subst eo25
   try go_wp2_with (first|(go_at_call 21;(with_reducible refine (aUz.calls kj2 _ _ t780 _ _ y784 t788 _ (xd_ (Kd.cOz HO782.out).2.2) ((Kd.cOz HO782.out).2.1) (xd_ (Kd.aIz HR787.out HB.out)) (HC787.out) A19.out).mono ?_);rintro e w' ⟨rfl,⟨nd,rfl⟩⟩))
   go_ret;exact ⟨er_,bl_⟩
mutual
def aHz.l0:Nat->List Int->List (List Int)->Int->Int->Option (List Int×Int)
 |0,_,_,_,_=>none
 |k+1,x4,x14,x15,x16=>if x16<x15 then (if 0<=x16 then (if x16<(x14.length:Int) then (if ((rd_L1 x14 x16).length:Int)=(x4.length:Int) then (aHz.l1 k x4 x14 x15 x16 (rd_L1 x14 x16) ((rd_L1 x14 x16).length:Int) 0) else (some (([] :List Int),1))) else (none)) else (none)) else (some (x4,0))
def aHz.l1:Nat->List Int->List (List Int)->Int->Int->List Int->Int->Int->Option (List Int×Int)
 |0,_,_,_,_,_,_,_=>none
 |k+1,x4,x14,x15,x16,x25,x26,x27=>if x27<x26 then (if 0<=x27 then (if x27<(x25.length:Int) then (if x27<(x4.length:Int) then (aHz.l1 k (x4.set (x27:Int).toNat (Go.bits .xor .u8 (rd x4 x27) (rd x25 x27))) x14 x15 x16 x25 x26 (wrap64 (x27+1))) else (none)) else (none)) else (none)) else (aHz.l0 k x4 x14 x15 (wrap64 (x16+1)))
end
def aHz.f (k:Nat) (l0:List (List Int)):Option (List Int×Int):=if 0<(l0.length:Int) then (if 0<=((rd_L1 l0 0).length:Int) then (if (((rd_L1 l0 0).length:Int):Int).toNat<=281474976710656 then (aHz.l0 k (List.replicate (((rd_L1 l0 0).length:Int):Int).toNat 0) l0 (l0.length:Int) 0) else (none)) else (none)) else (none)
theorem aHz.aRz: ∀k,(∀y0 y1 y2 y3,LeO (aHz.l0 k y0 y1 y2 y3) (aHz.l0 (k+1) y0 y1 y2 y3))/\(∀y0 y1 y2 y3 y4 y5 y6,LeO (aHz.l1 k y0 y1 y2 y3 y4 y5 y6) (aHz.l1 (k+1) y0 y1 y2 y3 y4 y5 y6))
 |0=>⟨fun _ _ _ _ r h=>by simp [aHz.l0] at h,fun _ _ _ _ _ _ _ r h=>by simp [aHz.l1] at h⟩
 |k+1=>by
  obtain ⟨ih0,ih1⟩:=aHz.aRz k;refine ⟨?_,?_⟩
  ·intro y0 y1 y2 y3;unfold aHz.l0
   repeat' with_reducible first|apply ih0|apply ih1|apply Yg|apply Yh|apply Yi|refine Yj ?_ fun _=>?_
  ·intro y0 y1 y2 y3 y4 y5 y6;unfold aHz.l1
   repeat' with_reducible first|apply ih0|apply ih1|apply Yg|apply Yh|apply Yi|refine Yj ?_ fun _=>?_
theorem aHz.mono: ∀a0 k,LeO (aHz.f k a0) (aHz.f (k+1) a0):=by
 intro a0 k;obtain ⟨ih0,ih1⟩:=aHz.aRz k;unfold aHz.f
 repeat' with_reducible first|apply ih0|apply ih1|apply Yg|apply Yh|apply Yi|refine Yj ?_ fun _=>?_
theorem aHz.calls (k : Nat) (A0 : Option Addr) (c0 : Nat) (l0 : List (List Int)) (r1 : List Int) (r2 : Int) (w : World) (hr0 : Kd.C (Kd.slice 5 (Kd.int .u8)) w A0 l0.length l0) (hc0 : l0.length <= c0) (h : aHz.f k l0 = some (r1, r2)) :
  Calls Tryz.prog 82 #[.slice A0 l0.length c0] w fun e w'=> ∃v0_:Value,e= .returned (.tuple #[v0_, .int .i64 r2])/\Kd.R (Kd.int .u8) 5 w' w.heap.size (fun _=>True) v0_ r1/\Below w.heap.size w w':=by
 have HR0:=Za hr0;have HC0:=Za hc0;clear hr0 hc0;have HB:=Za (Zw w.heap.size w);have H:=h;clear h;unfold aHz.f at H;by_cases c2:0<(l0.length:Int)
 rotate_left
 ·rw [Yb c2] at H;exact Yf H (by simp)
 rw [Ya c2] at H;have c2b0:=Zd c2;have c2b1:decide (0<l0.length)=true:=Zd (by omega);clear c2;by_cases c3:0<=((rd_L1 l0 0).length:Int)
 rotate_left
 ·rw [Yb c3] at H;exact Yf H (by simp)
 rw [Ya c3] at H;have c3b0:=Zz c3;have c3b1:=Zd c3;clear c3;by_cases c4:(((rd_L1 l0 0).length:Int):Int).toNat<=281474976710656
 rotate_left
 ·rw [Yb c4] at H;exact Yf H (by simp)
 rw [Ya c4] at H;have c4b0:=Zz c4;have c4b1:=Zd c4;clear c4;obtain ⟨y102,hy102⟩: ∃y_:List Int,y_=(List.replicate (((rd_L1 l0 0).length:Int):Int).toNat 0):=⟨_,rfl⟩
 first|rw [Zl, <-hy102] at H|rw [<-hy102] at H
 (try dsimp only at H)
 have Ny102:=Za hy102;clear hy102;have H':=Za H;clear H;have p101:0<=(0:Int):=(by omega);have q101:0<(l0.length:Int):=Zc as_;obtain ⟨ad101,A101_0,c101_0,e101,hx101_0,hl101_0,hi101_0⟩:=at_L1 HR0.out 0 p101 q101;cases e101
 have qi101:(0<l0.length)=True:=Zz (by omega)
 (try rw [show ((0:Int)).toNat=0 from rfl] at hx101_0)
 (try rw [Addr.add_zero'] at hx101_0)
 have HR101_0:=Za hi101_0;have HC101_0:=Za hl101_0;clear hi101_0 hl101_0;replace p101:=Zz p101;replace q101:=Zz q101;go_enter Tryz.func82,Tryz.ntmps82
 go_wp2_with (first|((with_reducible refine a8z (N:=13) rfl ?_);refine Kd.R_make (Kd.int .u8) _ 5 rfl (N:=13) rfl 34 _ _ rfl ((rd_L1 l0 0).length:Int) rfl rfl Tryz.underlying34 (.int .u8 0) 1 info5 rfl (by decide) (by omega) 0 (ok:=fun _=>True) (okp:=fun _=>True) rfl (fun _ hk=>hk) trivial (Zc as_) (Zt (Nat.mul_le_mul_right _ (Zc as_:((rd_L1 l0 0).length:Int).toNat<=281474976710656)) (by omega)) (Zw _ _) (Zv _) ?_;intro v103 w5 ho6 hb hg_ hnew_;clear hg_ hnew_;(first|rw [<-Ny102.out] at ho6|(simp only [Int.reduceToNat] at ho6;rw [<-Ny102.out] at ho6));have n_:=Zb (Za (Kd.bKz ho6 (aez bl_))) (hs_ HB hb);clear HB;obtain ⟨HO104,HB⟩:=n_;clear hb ho6))
 go_loopg [16] k (fun kq v16 w'=> ∃(x4_1:List Int) (x16_1:Int),v16= .int .i64 x16_1/\Aside0 (aHz.l0 kq x4_1 l0 (l0.length:Int) x16_1=some (r1,r2))/\Aside0 (kq<=k)/\Aside0 (Kd.R (Kd.int .u8) 5 w' w.heap.size (fun _=>True) v103 x4_1)/\Aside0 (Below w.heap.size w w'))
 case atStart=>exact ⟨(y102),(0),sd_,H',⟨Zv _⟩,⟨xd_ HO104.out⟩,⟨bl_⟩⟩
 clear H';clear c2b0 c2b1 c3b0 c3b1 c4b0 c4b1 hx101_0 p101 q101;obtain ⟨x4_1,x16_1,rfl,HA,HK1,HO_4,HB⟩:=hrel;rcases gk with _|k1
 ·exact Yf HA.out (by simp [aHz.l0])
 have H:=HA.out;clear HA;simp only [aHz.l0] at H;by_cases c7:x16_1<(l0.length:Int)
 rotate_left
 ·rw [Yb c7] at H;have c7b0:=Ze c7;clear c7;simp only [Zx,Zy] at H;obtain ⟨rfl,rfl⟩:=H;go_wp2;go_ret2;exact ⟨_,er_,xd_ HO_4.out,bl_⟩
 rw [Ya c7] at H;have c7b0:=Zd c7;clear c7;by_cases c8:0<=x16_1
 rotate_left
 ·rw [Yb c8] at H;exact Yf H (by simp)
 rw [Ya c8] at H;have c8b0:=Zd c8;clear c8;by_cases c9:x16_1<(l0.length:Int)
 rotate_left
 ·rw [Yb c9] at H;exact Yf H (by simp)
 rw [Ya c9] at H;have c9b0:=Zd c9;clear c9;by_cases c10:((rd_L1 l0 x16_1).length:Int)=(x4_1.length:Int)
 rotate_left
 ·rw [Yb c10] at H;have c10b0:(((rd_L1 l0 x16_1).length:Int)==(x4_1.length:Int))=false:=Zq c10;have c10b1:(((rd_L1 l0 x16_1).length:Int) !=(x4_1.length:Int))=true:=Yd c10
  have c10b2:((rd_L1 l0 x16_1).length==x4_1.length)=false:=by first|simpa using c10|(simp at c10|-;omega)
  simp only [Zx,Zy] at H;obtain ⟨rfl,rfl⟩:=H;have p105:0<=(x16_1:Int):=Zc as_;have q105:x16_1<(l0.length:Int):=Zc as_;obtain ⟨ad105,A105_0,c105_0,e105,hx105_0,hl105_0,hi105_0⟩:=at_L1 HR0.out x16_1 p105 q105;obtain rfl:ad101=ad105:=(by injection e105);replace hx105_0:=(HB.out.cell (Zj w _ hx105_0)).trans hx105_0;have HR105_0:=Za hi105_0;have HC105_0:=Za hl105_0;clear hi105_0 hl105_0;replace p105:=Zz p105;replace q105:=Zz q105;obtain ⟨Ao19,co19,eo19⟩:=Kd.bcz HO_4.out;subst eo19;go_wp2;go_ret2;exact ⟨_,er_,nl_,bl_⟩
 rw [Ya c10] at H;have c10b0:(((rd_L1 l0 x16_1).length:Int)==(x4_1.length:Int))=true:=Ye c10;have c10b1:(((rd_L1 l0 x16_1).length:Int) !=(x4_1.length:Int))=false:=Yc c10
 have c10b2:((rd_L1 l0 x16_1).length==x4_1.length)=true:=by first|simpa using c10|(simp at c10|-;omega)
 clear c10;have H':=Za H;clear H;have p105:0<=(x16_1:Int):=Zc as_;have q105:x16_1<(l0.length:Int):=Zc as_;obtain ⟨ad105,A105_0,c105_0,e105,hx105_0,hl105_0,hi105_0⟩:=at_L1 HR0.out x16_1 p105 q105;obtain rfl:ad101=ad105:=(by injection e105);replace hx105_0:=(HB.out.cell (Zj w _ hx105_0)).trans hx105_0;have HR105_0:=Za hi105_0;have HC105_0:=Za hl105_0;clear hi105_0 hl105_0;replace p105:=Zz p105;replace q105:=Zz q105;obtain ⟨Ao11,co11,eo11⟩:=Kd.bcz HO_4.out;subst eo11;go_wp2
 go_loopg [27] k1 (fun kq v27 w'=> ∃(x4_2:List Int) (x27_2:Int),v27= .int .i64 x27_2/\Aside0 (aHz.l1 kq x4_2 l0 (l0.length:Int) x16_1 (rd_L1 l0 x16_1) ((rd_L1 l0 x16_1).length:Int) x27_2=some (r1,r2))/\Aside0 (kq<=k1)/\Aside0 (Kd.R (Kd.int .u8) 5 w' w.heap.size (fun _=>True) (.slice Ao11 x4_1.length co11) x4_2)/\Aside0 (Below w.heap.size w w'))
 case atStart=>exact ⟨(x4_1),(0),sd_,H',⟨Zv _⟩,⟨xd_ HO_4.out⟩,⟨bl_⟩⟩
 clear H';clear c7b0 c8b0 c9b0 c10b0 c10b1 c10b2 hx105_0 p105 q105;obtain ⟨x4_2,x27_2,rfl,HA,HK2,HO_4,HB⟩:=hrel;have hl4_2:=(Kd.aOz HO_4.out).1;rw [hl4_2] at HO_4
 (try simp only [hl4_2])
 rcases gk with _|k2
 ·exact Yf HA.out (by simp [aHz.l1])
 have H:=HA.out;clear HA;simp only [aHz.l1] at H;by_cases c12:x27_2<((rd_L1 l0 x16_1).length:Int)
 rotate_left
 ·rw [Yb c12] at H;have c12b0:=Ze c12;clear c12;have H':=Za H;clear H;go_wp2
  (try simp only [<-hl4_2])
  go_roundg k2
  case measure=>have:=HK1.out;have:=HK2.out;omega
  case rel=>exact ⟨(x4_2),(wrap64 (x16_1+1)),sd_,H',⟨by have:=HK1.out;have:=HK2.out;omega⟩,⟨by (try simp only [hl4_2]);(with_reducible repeat (first|apply Kd.R_alloc|apply Kd.c7z|apply Kd.cGz));exact HO_4.out⟩,⟨bl_⟩⟩
 rw [Ya c12] at H;have c12b0:=Zd c12;clear c12;by_cases c13:0<=x27_2
 rotate_left
 ·rw [Yb c13] at H;exact Yf H (by simp)
 rw [Ya c13] at H;have c13b0:=Zd c13;clear c13;by_cases c14:x27_2<((rd_L1 l0 x16_1).length:Int)
 rotate_left
 ·rw [Yb c14] at H;exact Yf H (by simp)
 rw [Ya c14] at H;have c14b0:=Zd c14;clear c14;by_cases c15:x27_2<(x4_2.length:Int)
 rotate_left
 ·rw [Yb c15] at H;exact Yf H (by simp)
 rw [Ya c15] at H;have c15b0:=Zd c15;clear c15;obtain ⟨y108,hy108⟩: ∃y_:List Int,y_=(x4_2.set (x27_2:Int).toNat (Go.bits .xor .u8 (rd x4_2 x27_2) (rd (rd_L1 l0 x16_1) x27_2))):=⟨_,rfl⟩
 first|rw [Zl, <-hy108] at H|rw [<-hy108] at H
 (try dsimp only at H)
 have Ny108:=Za hy108;clear hy108;have H':=Za H;clear H;have p106:0<=(x27_2:Int):=Zc as_;have q106:x27_2<((rd_L1 l0 x16_1).length:Int):=Zc as_;obtain ⟨_,e106,hx106_0⟩:=Kd.brz HR105_0.out x27_2 p106 q106;cases e106
 replace hx106_0:=(HB.out.cell (Zj w _ hx106_0)).trans hx106_0;replace p106:=Zz p106;replace q106:=Zz q106;have p107:0<=(x27_2:Int):=Zc as_;have q107:x27_2<(x4_2.length:Int):=Zc as_;obtain ⟨_,e107,hx107_0⟩:=Kd.brz (Kd.aOz HO_4.out).2.2 x27_2 p107 q107;cases e107
 replace p107:=Zz p107;replace q107:=Zz q107;have p16:0<=(x27_2:Int):=Zc as_;have q16:(x27_2:Int)<((x4_2.length:Int):Int):=Zc as_;obtain ⟨go16,co16,eo16,gb16,gl16,cl16,HG16⟩:=Kd.dyz HO_4.out (by omega)
 (first|cases eo16|(injection eo16 with ea_ en_ ec_;(first|subst ea_|(injection ea_ with ea_;subst ea_));subst ec_;clear en_))
 have GB16:=Za gb16;have GG16:=Za HG16;clear gb16 gl16 HG16
 (first|simp only [add_plain] at hx107_0|skip)
 obtain ⟨hx16_0,hf16_0⟩:=Kd.R_celln 0 HO_4.out (x27_2:Int) p16 q16;replace p16:=Zz p16;replace q16:=Zz q16;have HP17:=Kd.R_putg HO_4.out (x27_2:Int) (Go.bits .xor .u8 (rd x4_2 x27_2) (rd (rd_L1 l0 x16_1) x27_2))
 go_wp2_with (first|((with_reducible refine c9z (t:=5) (p:=38) rfl ?_);refine dQz (t:=5) (p:=38) (v:= ?vo_w18) (w1:=(wr.setCell ⟨go16,(x27_2:Int).toNat,none⟩ (.int .u8 (Go.bits .xor .u8 (rd x4_2 x27_2) (rd (rd_L1 l0 x16_1) x27_2))))) ?hg ?ho ?hn ?hr ?_;(case ho=>rfl);(case hg=>rfl);(case hn=>rfl);(case hr=>first|(go_simp;done)|(go_simp;rfl));intro w18 hw;have hg:wr.grownBy w18 (some go16):=(by rw [hw];exact HP17.2);have hp_:Kd.R (Kd.int .u8) 5 w18 w.heap.size (fun _=>True) (.slice (some ⟨go16,0,none⟩) x4_2.length co11) y108:=(by rw [hw,Ny108.out];exact HP17.1);clear HP17;have n_:=Zb (Za (hp_)) (Za ((by rw [hw];exact duz (HB.out) GB16.out:Below w.heap.size w w18)));clear HO_4 HB;obtain ⟨HO_4,HB⟩:=n_;clear hg hw hp_))
 (try simp only [<-hl4_2])
 go_roundg k2
 case measure=>have:=HK1.out;have:=HK2.out;omega
 case rel=>exact ⟨(y108),(wrap64 (x27_2+1)),sd_,H',⟨by have:=HK1.out;have:=HK2.out;omega⟩,⟨by (try simp only [hl4_2]);(with_reducible repeat (first|apply Kd.R_alloc|apply Kd.c7z|apply Kd.cGz));exact HO_4.out⟩,⟨bl_⟩⟩
theorem eXz (w:World):(callFunc 205 #[]).run Tryz.prog w= .ok (.value (.tuple #[])) w:=run_call_mark0 Tryz.func205 kr_ kr_ kr_ .disable kr_ w
theorem once_enable (w:World):(callFunc 207 #[]).run Tryz.prog w= .ok (.value (.tuple #[])) w:=run_call_mark0 Tryz.func207 kr_ kr_ kr_ .enable kr_ w
theorem once_acquire (a:Addr) (w:World):(callFunc 208 #[.pointer (some a)]).run Tryz.prog w= .ok (.value (.tuple #[])) w:=run_call_marked Tryz.func208 kr_ kr_ kr_ .acquire kr_ a w
theorem e3z (a:Addr) (w:World):(callFunc 210 #[.pointer (some a)]).run Tryz.prog w= .ok (.value (.tuple #[])) w:=run_call_marked Tryz.func210 kr_ kr_ kr_ .releaseMerge kr_ a w
theorem eUz (a : Addr) (x : Value) (u : FrameMode) (w : World) (hc : w.cell? a = some x) (hz : w.frozen? a = false) :
  CallsD Tryz.prog 200 #[.pointer (some a), .bool true] u w fun e u' w'=>u'=u/\(e= .returned (.tuple #[])/\w'=w.drew.setCell a (.int .u32 1)):=by
 have hc':w.drew.cell? a=some x:=by go_simp
 have hz':w.drew.frozen? a=false:=by go_simp
 have hst:=run_call_store (P:=Tryz.prog) Tryz.func203 kr_ kr_ kr_ kr_ (k:= .u32) (y:=1) hc' hz'
 go_enter_d Tryz.func200,Tryz.ntmps200
 go_wp2
 go_region_calls
 all_goals (go_end0;exact ⟨rfl,rfl⟩)
theorem eGz (a : Addr) (u : FrameMode) (w : World) (hc : w.cell? a = some (.int .i32 1)) (hz : w.frozen? a = false) :
  CallsD Tryz.prog 199 #[.pointer (some a)] u w fun e u' w'=>u'=u/\(e= .returned (.tuple #[])/\w'=w.setCell a (.int .i32 0)):=by
 have hd:=eXz;have he:=once_enable;have hr:=e3z;have hadd:=run_call_add (P:=Tryz.prog) Tryz.func211 kr_ kr_ kr_ .i32 kr_ (y:= -1) (s:=0) hc hz (by simp [go_sem];rfl);have hcv:=run_convert_to_unsafe (P:=Tryz.prog) (src:=229) (dst:=233) Tryz.underlying229 Tryz.underlying233 kr_ hc
 go_enter_d Tryz.func199,Tryz.ntmps199
 go_wp2
 go_end0
 go_wp2
 go_end0
 exact ⟨rfl,rfl⟩
theorem once_lock_free (a : Addr) (w : World) (hc : w.cell? a = some (.int .i32 0)) (hz : w.frozen? a = false) :
  Calls Tryz.prog 198 #[.pointer (some a)] w fun e w'=>e= .returned (.tuple #[])/\w'=w.setCell a (.int .i32 1):=by
 have hd:=eXz;have he:=once_enable;have ha:=once_acquire;have hcas:=run_call_cas_hit (P:=Tryz.prog) Tryz.func206 kr_ kr_ kr_ .i32 kr_ (y:=1) hc hz;have hc':(w.setCell a (.int .i32 1)).cell? a=some (.int .i32 1):=World.cell?_setCell_same w a _ hc;have hcv:=run_convert_to_unsafe (P:=Tryz.prog) (src:=229) (dst:=233) Tryz.underlying229 Tryz.underlying233 kr_ hc';go_enter Tryz.func198,Tryz.ntmps198;go_wp2
 first|go_end0|(simp only [Exit.inBlock,Exit.then];refine bodyPost_ret (results_none rfl _ _ _) rfl ?_)|refine bodyPost_ret (results_none rfl _ _ _) rfl ?_
 go_wp2
 go_end0
 exact ⟨rfl,rfl⟩
def IsReady (W:World) (g:Nat) (w:World):Prop:= ∃a b:Nat,w.heap[g]?=some (.cells (readyF 8 285 a b) 172 (0,0))/\w.heap[a]?=some (.cells (nums .i64 (expAt 255)).toArray 3 (0,0))/\w.heap[b]?=some (.cells (nums .i64 (logAt 255)).toArray 3 (0,0))/\W.heap.size<=a/\W.heap.size<=b/\BB W w g
theorem once_slow (g pl : Nat) (W : World) (hne : g ≠ pl) (hg : W.heap[g]? = some (.cells (freshF 8 285) 172 (0, 0))) (hp : W.heap[pl]? = some (.cells #[.pointer (some ⟨g, 0, none⟩)] 72 (0, 0))) :
  Calls Tryz.prog 193 #[.pointer (some ⟨g,2,none⟩), .func (.func 179) #[] #[.pointer (some ⟨pl,0,none⟩)]] W fun e w'=>e= .returned (.tuple #[])/\IsReady W g w':=by
 have h2:W.cell? ⟨g,2,none⟩=some (.int .u32 0):=(abz hg 2).trans rfl;have h3:W.cell? ⟨g,3,none⟩=some (.int .i32 0):=(abz hg 3).trans rfl;have f3:=bmz hg 3;have f2:=bmz hg 2;have hl:=run_call_load (P:=Tryz.prog) Tryz.func197 kr_ kr_ kr_ .u32 kr_ (w:=W.setCell ⟨g,3,none⟩ (.int .i32 1)) (a:=⟨g,2,none⟩) (x:=0) ((World.cell?_setCell_other _ ⟨g,3,none⟩ ⟨g,2,none⟩ _ (by simp)).trans h2);have hg1:(W.setCell ⟨g,3,none⟩ (.int .i32 1)).heap[g]?=some (.cells #[.int .i64 8, .int .u32 285, .int .u32 0, .int .i32 1, .int .u32 0, .slice none 0 0, .slice none 0 0] 172 (0,0)):=cvz hg 3 _ rfl;have hp1:(W.setCell ⟨g,3,none⟩ (.int .i32 1)).heap[pl]?=some (.cells #[.pointer (some ⟨g,0,none⟩)] 72 (0,0)):=byz hp (Ne.symm hne) _;have HC:=Za (gf_ready1.calls g pl _ _ _ _ hne hg1 hp1);have HBB:=Za (BB.set (BB.refl W g) 3 (.int .i32 1));have hnot: ∀(x:Bool) (w:World),(Op.unary .not (.bool x)).run Tryz.prog w= .ok (.bool (!x)) w:=fun _ _=>rfl
 have hsz:(W.setCell ⟨g,3,none⟩ (.int .i32 1)).heap.size=W.heap.size:=by simp
 have hgl:=a1z hg;clear hg hp hg1 hp1;have HSZ:=Za hsz;have HGL:=Za hgl;clear hgl;clear hsz
 go_enter_defers Tryz.func193,Tryz.ntmps193
 go_wp2_with (go_at_call 198;refine (once_lock_free ⟨g,3,none⟩ _ (by go_simp) (by go_simp)).mono ?_;rintro e w' ⟨rfl,rfl⟩)
 generalize hw1:W.setCell ⟨g,3,none⟩ (.int .i32 1)=w1 at *
 go_wp2_with (first|(go_at_call 179;refine HC.out.mono ?_;rintro e w2 ⟨rfl,a,b,k1,k2,k3,k4,k5,k6⟩)|(go_at_call 192;go_in))
 have f2':=bmz k1 2;have f3':=bmz k1 3;have h2':w2.cell? ⟨g,2,none⟩=some (.int .u32 0):=(abz k1 2).trans rfl;have h3':w2.cell? ⟨g,3,none⟩=some (.int .i32 1):=(abz k1 3).trans rfl;go_wp2;refine leaves_cons (f:=200) (args:= #[.pointer (some ⟨g,2,none⟩), .bool true]) (by simp) (by simp [go_sem]) ?_;refine (eUz ⟨g,2,none⟩ (.int .u32 0) .returning _ h2' (by simp [f2'])).mono ?_;rintro e u' w'' ⟨rfl,rfl,rfl⟩;refine leaves_cons (f:=199) (args:= #[.pointer (some ⟨g,3,none⟩)]) (by simp [settle]) (by simp [go_sem]) ?_;refine (eGz ⟨g,3,none⟩ _ _ ?_ (by simp [f3'])).mono ?_
 ·refine (World.cell?_setCell_other _ ⟨g,2,none⟩ ⟨g,3,none⟩ _ (by simp)).trans ?_;rw [World.cell?_drew];exact h3'
 rintro e u' w'' ⟨rfl,rfl,rfl⟩
 have hfin:IsReady W g ((w2.drew.setCell ⟨g,2,none⟩ (.int .u32 1)).setCell ⟨g,3,none⟩ (.int .i32 0)):=by
  have hga:a≠g:=by rintro rfl;have:=HGL.out;have:=HSZ.out;omega
  have hgb:b≠g:=by rintro rfl;have:=HGL.out;have:=HSZ.out;omega
  have k1':(w2.drew).heap[g]?=_:=k1;exact ⟨a,b,cvz (cvz k1' 2 _ rfl) 3 _ rfl,byz (byz (show w2.drew.heap[a]?=_ from k2) hga _) hga _,byz (byz (show w2.drew.heap[b]?=_ from k3) hgb _) hgb _,by have:=HSZ.out;omega,by have:=HSZ.out;omega,((HBB.out.trans k6).drew.set _ _).set _ _⟩
 simp [Leaves,settle,results,Tryz.results193];exact hfin
theorem once_do_first (g pl : Nat) (W : World) (hne : g ≠ pl) (hg : W.heap[g]? = some (.cells (freshF 8 285) 172 (0, 0))) (hp : W.heap[pl]? = some (.cells #[.pointer (some ⟨g, 0, none⟩)] 72 (0, 0))) :
  Calls Tryz.prog 178 #[.pointer (some ⟨g,2,none⟩), .func (.func 179) #[] #[.pointer (some ⟨pl,0,none⟩)]] W fun e w'=>e= .returned (.tuple #[])/\IsReady W g w':=by
 have h2:W.cell? ⟨g,2,none⟩=some (.int .u32 0):=(abz hg 2).trans rfl;have HC:=Za (once_slow g pl W hne hg hp);have hl:=run_call_load (P:=Tryz.prog) Tryz.func197 kr_ kr_ kr_ .u32 kr_ h2;have hnot: ∀(x:Bool) (w:World),(Op.unary .not (.bool x)).run Tryz.prog w= .ok (.bool (!x)) w:=fun _ _=>rfl
 clear hg hp;go_enter Tryz.func178,Tryz.ntmps178
 go_wp2_with (first|(go_at_call 193;refine HC.out.mono ?_;rintro e w' ⟨rfl,hR⟩)|(go_at_call 192;go_in))
 go_end0
 exact ⟨rfl,hR⟩
theorem once_do_done (a : Addr) (d : Int) (hd : ¬ d = 0) (fv : Value) (w : World) (h0 : w.cell? a = some (.int .u32 d)) (h' : ⟨a.block, a.off, none⟩ = a) :
  Calls Tryz.prog 178 #[.pointer (some a),fv] w fun e w'=>e= .returned (.tuple #[])/\w'=w:=by
 have hl:=run_call_load (P:=Tryz.prog) Tryz.func197 kr_ kr_ kr_ .u32 kr_ h0;have hnot: ∀(x:Bool) (w:World),(Op.unary .not (.bool x)).run Tryz.prog w= .ok (.bool (!x)) w:=fun _ _=>rfl
 have hd':(d !=0)=true:=by simp [hd]
 clear h';go_enter Tryz.func178,Tryz.ntmps178;go_wp2
 go_end0
 exact ⟨rfl,rfl⟩
theorem IsReady.fd {W w:World} {g:Nat} {S:Nat->Prop} (h:IsReady W g w) (hg: ¬S g) (hS: ∀k,S k->k<W.heap.size):Fd w g 8 285 S/\BB W w g:=by
 obtain ⟨a,b,h1,h2,h3,h4,h5,h6⟩:=h;exact ⟨⟨hg, .inr ⟨rfl,rfl,a,b,h1,h2,h3,fun s=>by have:=hS _ s;omega,fun s=>by have:=hS _ s;omega⟩⟩,h6⟩
def IsTab (g:Nat) (w:World):Prop:= ∃a b:Nat,w.heap[g]?=some (.cells (readyF 8 285 a b) 172 (0,0))/\w.heap[a]?=some (.cells (nums .i64 (expAt 255)).toArray 3 (0,0))/\w.heap[b]?=some (.cells (nums .i64 (logAt 255)).toArray 3 (0,0))
theorem gf_ready.calls (g : Nat) (S : Nat -> Prop) (W : World) (hF : Fd W g 8 285 S) (hS : ∀ k, S k -> k < W.heap.size) :
  Calls Tryz.prog 153 #[.pointer (some ⟨g,0,none⟩)] W fun e w'=>e= .returned (.pointer (some ⟨g,2,none⟩))/\IsTab g w'/\Fd w' g 8 285 S/\BB W w' g/\(W.cell? ⟨g,2,none⟩=some (.int .u32 1)->Below W.heap.size W w'):=by
 have hmf: ∀(fn:Fn) (first cap:Array Value) (w:World),(Instr.makeFunc fn first cap).run Tryz.prog w= .ok (.func fn first cap) w:=fun _ _ _ _=>rfl
 have hlt:=hF.lt;have hne:g≠W.heap.size:=by omega
 have HBB:=Za ((BB.refl W g).alloc (.cells #[.pointer (some ⟨g,0,none⟩)] 72));obtain ⟨hgS,h|⟨-, -,a,b,h1,h2,h3,ha,hb⟩⟩:=hF
 ·have HC:=Za (once_do_first g W.heap.size _ hne (bzz h _) (dsz W (.cells #[.pointer (some ⟨g,0,none⟩)] 72)));have h20:W.cell? ⟨g,2,none⟩=some (.int .u32 0):=(abz h 2).trans rfl;clear h;go_enter Tryz.func153,Tryz.ntmps153
  go_wp2_with fail
  refine HC.out.mono ?_;rintro e w' ⟨rfl,hR⟩
  have hc:w'.cell? ⟨W.heap.size,0,none⟩=some (.pointer (some ⟨g,0,none⟩)):=by
   obtain ⟨_,_,_,_,_,_,_,hB⟩:=hR;exact (World.cell?_of_block (hB.block _ (by simp) (Ne.symm hne))).trans ((abz (dsz W _) 0).trans rfl)
  have HR:=Za (Zb (show IsTab g w' by obtain ⟨a,b,h1,h2,h3, -⟩:=hR;exact ⟨a,b,h1,h2,h3⟩) (hR.fd hgS (fun k hk=>by have:=hS k hk;simp;omega)));clear hR;go_wp2;go_ret;exact ⟨rfl,HR.out.1,HR.out.2.1,HBB.out.trans HR.out.2.2,fun h1=>by rw [h20] at h1;injection h1 with h1;injection h1 with _ h1;exact Yf h1 (by decide)⟩
 ·have h0:(W.alloc (.cells #[.pointer (some ⟨g,0,none⟩)] 72)).cell? ⟨g,2,none⟩=some (.int .u32 1):=(abz (bzz h1 _) 2).trans rfl;have HC:=Za (once_do_done ⟨g,2,none⟩ 1 (by decide) (.func (.func 179) #[] #[.pointer (some ⟨W.heap.size,0,none⟩)]) _ h0 rfl);have HR:=Za (Zb (show IsTab g (W.alloc (.cells #[.pointer (some ⟨g,0,none⟩)] 72)) from ⟨a,b,bzz h1 _,bzz h2 _,bzz h3 _⟩) (show Fd (W.alloc (.cells #[.pointer (some ⟨g,0,none⟩)] 72)) g 8 285 S from ⟨hgS, .inr ⟨rfl,rfl,a,b,bzz h1 _,bzz h2 _,bzz h3 _,ha,hb⟩⟩));clear h0 h1 h2 h3;go_enter Tryz.func153,Tryz.ntmps153
  go_wp2_with fail
  refine HC.out.mono ?_;rintro e w' ⟨rfl,rfl⟩;go_wp2;go_ret;exact ⟨rfl,HR.out.1,HR.out.2,HBB.out,fun _=>amz (Zw _ _) _⟩
theorem exp_cell {w:World} {g:Nat} {t:TypeId} (h:w.heap[g]?=some (.cells (nums .i64 (expAt 255)).toArray t (0,0))) (j:Nat) (hj:j<255):w.cell? ⟨g,j,none⟩=some (.int .i64 (gpN j:Int)):=by
 rw [abz h j, <-exp_at j hj];have hl:j<(expAt 255).length:=by rw [eez];omega
 generalize expAt 255=l at hl;simp [nums,hl,Zm]
theorem log_cell {w:World} {g:Nat} {t:TypeId} (h:w.heap[g]?=some (.cells (nums .i64 (logAt 255)).toArray t (0,0))) (j:Nat) (hj:j<256):w.cell? ⟨g,j,none⟩=some (.int .i64 ((logAt 255).getD j 0)):=by
 rw [abz h j];have hl:j<(logAt 255).length:=by rw [efz];omega
 generalize logAt 255=l at hl;simp [nums,hl,Zm]
theorem gf_Exp.calls (g : Nat) (S : Nat -> Prop) (n : Nat) (W : World) (hn : n <= 1000000) (hF : Fd W g 8 285 S) (hS : ∀ k, S k -> k < W.heap.size) :
  Calls Tryz.prog 154 #[.pointer (some ⟨g,0,none⟩), .int .i64 (n:Int)] W fun e w'=>e= .returned (.int .i64 (gpN (n % 255):Int))/\Fd w' g 8 285 S/\BB W w' g/\(W.cell? ⟨g,2,none⟩=some (.int .u32 1)->Below W.heap.size W w'):=by
 have HF:=Za hF;have HS:=Za hS;have hc0:=hF.bits;clear hF hS;obtain ⟨m,hm⟩: ∃m,n % 255=m:=⟨_,rfl⟩;have hlt:m<255:=by omega
 have e1:Int.tmod (n:Int) 255=(m:Int):=by rw [Int.tmod_eq_emod_of_nonneg (by omega)];omega
 have e1':(n:Int) % 255=(m:Int):=by omega
 have e3':((m:Int)+255) % 255=(m:Int):=by omega
 have e2:IntKind.i64.wrap ((m:Int)+255)=(m:Int)+255:=by rw [IntKind.wrap_i64];omega
 have e3:Int.tmod ((m:Int)+255) 255=(m:Int):=by rw [Int.tmod_eq_emod_of_nonneg (by omega)];omega
 have i1:(0:Int)<=(m:Int):=by omega
 have i2:(m:Int)<256:=by omega
 rw [hm];have HM:=Za hm;clear hm;go_enter Tryz.func154,Tryz.ntmps154
 go_wp2_with (go_at_call 150;refine (gf_Size8 g _ hc0).mono ?_;rintro e w9 ⟨rfl,m9,rfl⟩)
 go_region_with (first|(go_at_call 153;refine (gf_ready.calls g S _ (HF.out.drewN _) HS.out).mono ?_;rintro e w1 ⟨rfl,⟨a,b,k1,k2,k3⟩,k4,k5,k6⟩;have c5:w1.cell? ⟨g,5,none⟩=some (.slice (some ⟨a,0,none⟩) 256 256):=(abz k1 5).trans rfl;have cm:=exp_cell k2 m hlt;have K4:=Za k4;have K5:=Za k5;have K6:=Za k6;clear k1 k2 k3 k4 k5 k6))
 all_goals
  go_wp2;go_ret;exact ⟨rfl,K4.out,⟨K5.out.os,K5.out.tape,K5.out.output,K5.out.size,K5.out.block⟩,fun h=>by have hB:=K6.out (by simpa using h);exact ⟨hB.os,hB.tape,hB.output,hB.size,hB.block⟩⟩
theorem C_nums {w:World} {g:Nat} {t:TypeId} {xs:List Int} (h:w.heap[g]?=some (.cells (nums .i64 xs).toArray t (0,0))) (hl:xs.length<=9223372036854775807):Kd.C (Kd.int .i64) w (some ⟨g,0,none⟩) xs.length xs:=by
 refine ⟨rfl,hl,fun _=>⟨_,rfl,fun j p hp=>⟨[.int .i64 p],rfl,rfl,fun i u hu=> ?_⟩⟩⟩;obtain ⟨hj,rfl⟩:=Zk hp
 cases i with
 |succ i=>simp at hu
 |zero=>
  obtain rfl:Value.int .i64 xs[j] =u:=by simpa using hu
  have e:(⟨g,0,none⟩:Addr).add (j*(Kd.int .i64).sz+0)=⟨g,j,none⟩:=by
   show (⟨g,0,none⟩:Addr).add (j*1+0)=_;unfold Addr.add;split<;>simp_all
  rw [e,abz h j];simp [nums,hj]
theorem etz (wb a b:Int):allIn wb [a,b] =(inF wb a&&inF wb b):=by simp [allIn,inF]
theorem allIn_one (wb a:Int):allIn wb [a] =inF wb a:=by simp [allIn,inF]
def fpoly (wb:Int):Int:=if wb=8 then 285 else 69643
theorem csz.out (g : Nat) (S : Nat -> Prop) (wb p a b : Int) (W : World) (hw : wb = 8 \/ wb = 16) (hF : Fd W g wb p S) (h : (inF wb a && inF wb b) = false) :
  Calls Tryz.prog 103 #[.pointer (some ⟨g,0,none⟩), .int .i64 a, .int .i64 b] W fun e w'=>e= .returned (.int .i64 (gmul wb a b))/\Fd w' g wb p S/\BB W w' g:=by
 rw [gmul_out h];have HC:=Za (gf_in.calls g wb p S (some ⟨W.heap.size,0,none⟩) 2 [a,b] _ (hF.alloc (.cells #[.int .i64 a, .int .i64 b] 3)) hw (C_nums (t:=3) (heap_alloc_new _ _) (by simp)) (by simp));rw [etz,h] at HC;have HF:=Za hF;clear hF h;go_enter Tryz.func103,Tryz.ntmps103
 go_wp2_with (first|(go_at_call 151;refine HC.out.mono ?_;rintro e w9 ⟨rfl,m9,rfl⟩))
 go_ret;exact ⟨rfl,(HF.out.alloc _).drewN _,((BB.refl _ _).alloc _).drewN _⟩
theorem csz.zero (g : Nat) (S : Nat -> Prop) (wb p a b : Int) (W : World) (hw : wb = 8 \/ wb = 16) (hF : Fd W g wb p S) (h : (inF wb a && inF wb b) = true) (h0 : a = 0 \/ (a ≠ 0 /\ b = 0)) :
  Calls Tryz.prog 103 #[.pointer (some ⟨g,0,none⟩), .int .i64 a, .int .i64 b] W fun e w'=>e= .returned (.int .i64 (gmul wb a b))/\Fd w' g wb p S/\BB W w' g:=by
 have HC:=Za (gf_in.calls g wb p S (some ⟨W.heap.size,0,none⟩) 2 [a,b] _ (hF.alloc (.cells #[.int .i64 a, .int .i64 b] 3)) hw (C_nums (t:=3) (heap_alloc_new _ _) (by simp)) (by simp));rw [etz,h] at HC;have HF:=Za hF;clear hF h;rcases h0 with rfl|⟨ha,rfl⟩
 ·rw [dMz];go_enter Tryz.func103,Tryz.ntmps103
  go_wp2_with (first|(go_at_call 151;refine HC.out.mono ?_;rintro e w9 ⟨rfl,m9,rfl⟩))
  go_ret;exact ⟨rfl,(HF.out.alloc _).drewN _,((BB.refl _ _).alloc _).drewN _⟩
 ·rw [epz];have hb:(a==0)=false:=beq_eq_false_iff_ne.2 ha;clear ha;go_enter Tryz.func103,Tryz.ntmps103
  go_wp2_with (first|(go_at_call 151;refine HC.out.mono ?_;rintro e w9 ⟨rfl,m9,rfl⟩))
  go_ret;exact ⟨rfl,(HF.out.alloc _).drewN _,((BB.refl _ _).alloc _).drewN _⟩
theorem csz.in16 (g : Nat) (S : Nat -> Prop) (a b : Int) (W : World) (hF : Fd W g 16 69643 S) (ha : 0 < a) (ha' : a < 65536) (hb : 0 < b) (hb' : b < 65536) :
  Calls Tryz.prog 103 #[.pointer (some ⟨g,0,none⟩), .int .i64 a, .int .i64 b] W fun e w'=>e= .returned (.int .i64 (gmul 16 a b))/\Fd w' g 16 69643 S/\BB W w' g:=by
 have hin:(inF 16 a&&inF 16 b)=true:=by simp [inF,fsize];omega
 have HC:=Za (gf_in.calls g 16 69643 S (some ⟨W.heap.size,0,none⟩) 2 [a,b] _ (hF.alloc (.cells #[.int .i64 a, .int .i64 b] 3)) (.inr rfl) (C_nums (t:=3) (heap_alloc_new _ _) (by simp)) (by simp));rw [etz,hin] at HC;have hm:=poly_mulmod16 a.toNat b.toNat (by omega) (by omega);rw [Int.toNat_of_nonneg (by omega),Int.toNat_of_nonneg (by omega)] at hm;have hg:gmul 16 a b=((gm 15 69643 a.toNat b.toNat:Nat):Int):=by simp [gmul,hin,gmN]
 have hlt:gm 15 69643 a.toNat b.toNat<2^(15+1):=gf16.toGf.lt (by omega);rw [hg];generalize gm 15 69643 a.toNat b.toNat=q at hm hlt;have hlt':(q:Int)<65536:=by omega
 have HM:=Za hm;have HF:=Za (hF.alloc (.cells #[.int .i64 a, .int .i64 b] 3));have z1:(a==0)=false:=beq_eq_false_iff_ne.2 (by omega);have z2:(b==0)=false:=beq_eq_false_iff_ne.2 (by omega);have c0:=hF.bits;have c1:=hF.poly;have hl:=hF.lt;have c0':(W.alloc (.cells #[.int .i64 a, .int .i64 b] 3)).cell? ⟨g,0,none⟩=some (.int .i64 16):=(World.cell?_alloc_past _ _ _ hl).trans c0;have c1':(W.alloc (.cells #[.int .i64 a, .int .i64 b] 3)).cell? ⟨g,1,none⟩=some (.int .u32 69643):=(World.cell?_alloc_past _ _ _ hl).trans c1;clear hF hin hm hg hlt;go_enter Tryz.func103,Tryz.ntmps103
 go_wp2_with (first|(go_at_call 151;refine HC.out.mono ?_;rintro e w9 ⟨rfl,m9,rfl⟩)|(go_at_call 152;refine (bNz.calls 40 _ _ _ _ _ HM.out).mono ?_;rintro e w9 ⟨rfl,hB⟩))
 go_ret;exact ⟨rfl,(HF.out.drewN _).below hB,(((BB.refl _ _).alloc _).drewN _).trans (BB.of_below hB _)⟩
theorem csz.in8 (g : Nat) (S : Nat -> Prop) (a b : Int) (W : World) (hF : Fd W g 8 285 S) (hS : ∀ k, S k -> k < W.heap.size) (ha : 0 < a) (ha' : a < 256) (hb : 0 < b) (hb' : b < 256) :
  Calls Tryz.prog 103 #[.pointer (some ⟨g,0,none⟩), .int .i64 a, .int .i64 b] W fun e w'=>e= .returned (.int .i64 (gmul 8 a b))/\Fd w' g 8 285 S/\BB W w' g:=by
 have hin:(inF 8 a&&inF 8 b)=true:=by simp [inF,fsize];omega
 have HC:=Za (gf_in.calls g 8 285 S (some ⟨W.heap.size,0,none⟩) 2 [a,b] _ (hF.alloc (.cells #[.int .i64 a, .int .i64 b] 3)) (.inl rfl) (C_nums (t:=3) (heap_alloc_new _ _) (by simp)) (by simp));rw [etz,hin] at HC;obtain ⟨a,rfl⟩:=Int.eq_ofNat_of_zero_le (show 0<=a by omega);obtain ⟨b,rfl⟩:=Int.eq_ofNat_of_zero_le (show 0<=b by omega);obtain ⟨i,j,hi,hj,e1,e2,e3⟩:=tab_mul a b (by omega) (by omega) (by omega) (by omega);have hg:gmul 8 a b=((gm 7 285 a b:Nat):Int):=by simp [gmul,hin,gmN]
 rw [hg, <-e3];have HF:=Za (hF.alloc (.cells #[.int .i64 a, .int .i64 b] 3));have z1:((a:Int)==0)=false:=beq_eq_false_iff_ne.2 (by omega);have z2:((b:Int)==0)=false:=beq_eq_false_iff_ne.2 (by omega);have c0:=hF.bits;have hl:=hF.lt;have c0':(W.alloc (.cells #[.int .i64 a, .int .i64 b] 3)).cell? ⟨g,0,none⟩=some (.int .i64 8):=(World.cell?_alloc_past _ _ _ hl).trans c0;have HS:=Za (show∀k,S k->k<(W.alloc (.cells #[.int .i64 a, .int .i64 b] 3)).heap.size from fun k hk=>by have:=hS k hk;simp;omega);have i1:(0:Int)<=(a:Int):=by omega
 have i2:(0:Int)<=(b:Int):=by omega
 have E1:=Za e1;have E2:=Za e2;have hsum:IntKind.i64.wrap ((i:Int)+(j:Int))=((i+j:Nat):Int):=by rw [IntKind.wrap_i64];omega
 clear hF hin hg hS e1 e2 e3;go_enter Tryz.func103,Tryz.ntmps103
 go_wp2_with (first|(go_at_call 151;refine HC.out.mono ?_;rintro e w9 ⟨rfl,m9,rfl⟩)|(go_at_call 153;refine (gf_ready.calls g S _ (HF.out.drewN _) HS.out).mono ?_;rintro e w1 ⟨rfl,⟨ta,tb,k1,k2,k3⟩,k4,k5, -⟩))
 have c6:w1.cell? ⟨g,6,none⟩=some (.slice (some ⟨tb,0,none⟩) 256 256):=(abz k1 6).trans rfl;have l1:w1.cell? ⟨tb,a,none⟩=some (.int .i64 (i:Int)):=by rw [log_cell k3 a (by omega),E1.out]
 have l2:w1.cell? ⟨tb,b,none⟩=some (.int .i64 (j:Int)):=by rw [log_cell k3 b (by omega),E2.out]
 have C2:=Za (show w1.cell? ⟨g,2,none⟩=some (.int .u32 1) from (abz k1 2).trans rfl);have K4:=Za k4;have K5:=Za k5;clear k1 k2 k3 k4 k5 c0 c0'
 go_region_held3 (fun W'=>W'.cell? ⟨g,6,none⟩=some (.slice (some ⟨tb,0,none⟩) 256 256)/\W'.cell? ⟨tb,a,none⟩=some (.int .i64 (i:Int))/\W'.cell? ⟨tb,b,none⟩=some (.int .i64 (j:Int))) (first|exact ⟨c6,l1,l2⟩|exact ⟨bBz q6 c6,bBz q6 l1,bBz q6 l2⟩) (first|(go_at_call 154;refine (gf_Exp.calls g S (i+j) _ (by omega) (K4.out.drewN 1) (fun k hk=>Zp (HS.out k hk) K5.out.size)).mono ?_;rintro e w3 ⟨rfl,q4,q5,q6'⟩;have q6:=q6' C2.out;clear q6'))
 have Q4:=Za q4;have Q5:=Za (((BB.refl W g).alloc (.cells #[.int .i64 a, .int .i64 b] 3)).drewN m9|>.trans K5.out|>.trans (show BB w1 w3 g from ⟨q5.os,q5.tape,q5.output,q5.size,q5.block⟩));clear q4 q5 q6 c6 l1 l2;go_wp2;go_ret;exact ⟨rfl,Q4.out,Q5.out⟩
theorem csz.calls (g : Nat) (S : Nat -> Prop) (wb a b : Int) (W : World) (hw : wb = 8 \/ wb = 16) (hF : Fd W g wb (fpoly wb) S) (hS : ∀ k, S k -> k < W.heap.size) :
  Calls Tryz.prog 103 #[.pointer (some ⟨g,0,none⟩), .int .i64 a, .int .i64 b] W fun e w'=>e= .returned (.int .i64 (gmul wb a b))/\Fd w' g wb (fpoly wb) S/\BB W w' g:=by
 by_cases h:(inF wb a&&inF wb b)=true
 ·by_cases ha:a=0
  ·exact csz.zero g S wb _ a b W hw hF h (.inl ha)
  ·by_cases hb:b=0
   ·exact csz.zero g S wb _ a b W hw hF h (.inr ⟨ha,hb⟩)
   ·simp only [Bool.and_eq_true,inF,decide_eq_true_eq] at h;rcases hw with rfl|rfl
    ·exact csz.in8 g S a b W hF hS (by omega) h.1.2 (by omega) h.2.2
    ·exact csz.in16 g S a b W hF (by omega) h.1.2 (by omega) h.2.2
 ·exact csz.out g S wb _ a b W hw hF (by simpa using h)
def blz.f (a0:Int):Option (ByteArray×Int×Int×Int×Int×Bool):=
 if a0=1 then some (⟨#[106,118]⟩,8,285,106,4,true) else if a0=2 then some (⟨#[106,99]⟩,16,69643,106,4,true)
 else if a0=3 then some (⟨#[105,114]⟩,8,285,105,3,true) else if a0=4 then some (⟨#[105,99]⟩,8,285,105,4,true)
 else if a0=5 then some (⟨#[98,98]⟩,8,285,98,4,true) else if a0=6 then some (⟨#[107,112]⟩,8,285,112,4,true)
 else some (⟨#[]⟩,0,0,0,0,false)
theorem blz.low (a0 : Int) (w : World) (h : a0 < 1) :
  Calls Tryz.prog 75 #[.int .i64 a0] w fun e w'=>e= .returned (.tuple #[.agg #[.string ⟨#[]⟩, .int .i64 0, .int .u32 0, .int .u8 0, .int .i64 0], .bool false])/\Below w.heap.size w w':=by
 go_enter Tryz.func75,Tryz.ntmps75;go_wp2;exact bodyPost_ret (v:= .tuple #[.agg #[.string ⟨#[]⟩, .int .i64 0, .int .u32 0, .int .u8 0, .int .i64 0], .bool false]) (by simp [results,Tryz.results75,go_sem]) rfl ⟨rfl,(Zw _ _).alloc (Zv _) _⟩
theorem blz.high (a0 : Int) (w : World) (h : 6 < a0) :
  Calls Tryz.prog 75 #[.int .i64 a0] w fun e w'=>e= .returned (.tuple #[.agg #[.string ⟨#[]⟩, .int .i64 0, .int .u32 0, .int .u8 0, .int .i64 0], .bool false])/\Below w.heap.size w w':=by
 have h1: ¬a0<1:=by omega
 go_enter Tryz.func75,Tryz.ntmps75;go_wp2;exact bodyPost_ret (v:= .tuple #[.agg #[.string ⟨#[]⟩, .int .i64 0, .int .u32 0, .int .u8 0, .int .i64 0], .bool false]) (by simp [results,Tryz.results75,go_sem]) rfl ⟨rfl,(Zw _ _).alloc (Zv _) _⟩
def dlz.v:Value:= .agg #[.string ⟨#[106,118]⟩, .int .i64 8, .int .u32 285, .int .u8 106, .int .i64 4, .string ⟨#[106,99]⟩, .int .i64 16, .int .u32 69643, .int .u8 106, .int .i64 4, .string ⟨#[105,114]⟩, .int .i64 8, .int .u32 285, .int .u8 105, .int .i64 3, .string ⟨#[105,99]⟩, .int .i64 8, .int .u32 285, .int .u8 105, .int .i64 4, .string ⟨#[98,98]⟩, .int .i64 8, .int .u32 285, .int .u8 98, .int .i64 4, .string ⟨#[107,112]⟩, .int .i64 8, .int .u32 285, .int .u8 112, .int .i64 4]
theorem dlz.any (w : World) :
  Calls Tryz.prog 111 #[] w fun e w'=>e= .returned dlz.v/\Below w.heap.size w w':=by
 go_enter Tryz.func111,Tryz.ntmps111
 go_wp2_with ((with_reducible refine c9z rfl ?_);refine wpList_store_row rfl 143 _ _ rfl w.heap.size _ rfl rfl 143 _ (heap_alloc_new _ _) kr_ rfl kr_ ?_)
 exact bodyPost_ret (results_cell_row Tryz.results111 _ _ w.heap.size _ _ (0,0) _ rfl (setRow_heap _ _ _ _ _ _ (heap_alloc_new _ _)) Tryz.underlying143 rfl kr_) rfl ⟨rfl,below_setRow ((Zw _ _).alloc (Zv _) _) (Zv _) _⟩
theorem blz.at_ (a0 : Int) (s : ByteArray) (x2 x3 x4 x5 : Int) (h0 : ¬ a0 < 1) (h6 : ¬ 6 < a0) (hi : ∀ w, (Instr.index 143 dlz.v (.int .i64 (a0 - 1))).run Tryz.prog w = .ok (.agg #[.string s, .int .i64 x2, .int .u32 x3, .int .u8 x4, .int .i64 x5]) w) (w : World) :
  Calls Tryz.prog 75 #[.int .i64 a0] w fun e w'=>e= .returned (.tuple #[.agg #[.string s, .int .i64 x2, .int .u32 x3, .int .u8 x4, .int .i64 x5], .bool true])/\Below w.heap.size w w':=by
 go_enter Tryz.func75,Tryz.ntmps75
 go_wp2_with fail
 refine (dlz.any _).mono ?_;rintro e w1 ⟨rfl,hb⟩;have hh:w1.heap[w.heap.size]?=some (.cells #[.string ⟨#[]⟩, .int .i64 0, .int .u32 0, .int .u8 0, .int .i64 0] 109 (0,0)):=(hb.block _ (by simp)).trans (heap_alloc_new _ _)
 go_wp2_with ((with_reducible refine c9z rfl ?_);(refine wpList_store_row rfl 109 _ _ rfl w.heap.size _ rfl rfl 109 _ hh kr_ rfl kr_ ?_))
 refine bodyPost_ret (v:= .tuple #[.agg #[.string s, .int .i64 x2, .int .u32 x3, .int .u8 x4, .int .i64 x5], .bool true]) ?_ rfl ⟨rfl,below_setRow (((Zw _ _).alloc (Zv _) _).trans (hb.mono (by simp))) (Zv _) _⟩;rw [results_cell_tmp Tryz.results75];simp only [Array.getD_eq_getD_getElem?,List.getElem?_toArray,List.getElem?_cons_succ,List.getElem?_cons_zero,Option.getD_some,asAddr,Sem.run_pure,Result.andThen_ok];rw [run_loadVar_row _ w.heap.size 109 109 _ (0,0) _ (setRow_heap _ _ _ _ _ _ hh) Tryz.underlying109 rfl kr_];rfl
theorem blz.calls (a0 : Int) (r1 : ByteArray) (r2 : Int) (r3 : Int) (r4 : Int) (r5 : Int) (r6 : Bool) (w : World) (h : blz.f a0 = some (r1, r2, r3, r4, r5, r6)) :
  Calls Tryz.prog 75 #[.int .i64 a0] w fun e w'=>e= .returned (.tuple #[.agg #[.string r1, .int .i64 r2, .int .u32 r3, .int .u8 r4, .int .i64 r5], .bool r6])/\Below w.heap.size w w':=by
 unfold blz.f at h;by_cases h1:a0=1
 ·subst h1;simp at h;obtain ⟨rfl,rfl,rfl,rfl,rfl,rfl⟩:=h;exact blz.at_ 1 _ _ _ _ _ (by decide) (by decide) (fun _=>by kernel_rfl) w
 rw [Yb h1] at h;by_cases h2:a0=2
 ·subst h2;simp at h;obtain ⟨rfl,rfl,rfl,rfl,rfl,rfl⟩:=h;exact blz.at_ 2 _ _ _ _ _ (by decide) (by decide) (fun _=>by kernel_rfl) w
 rw [Yb h2] at h;by_cases h3:a0=3
 ·subst h3;simp at h;obtain ⟨rfl,rfl,rfl,rfl,rfl,rfl⟩:=h;exact blz.at_ 3 _ _ _ _ _ (by decide) (by decide) (fun _=>by kernel_rfl) w
 rw [Yb h3] at h;by_cases h4:a0=4
 ·subst h4;simp at h;obtain ⟨rfl,rfl,rfl,rfl,rfl,rfl⟩:=h;exact blz.at_ 4 _ _ _ _ _ (by decide) (by decide) (fun _=>by kernel_rfl) w
 rw [Yb h4] at h;by_cases h5:a0=5
 ·subst h5;simp at h;obtain ⟨rfl,rfl,rfl,rfl,rfl,rfl⟩:=h;exact blz.at_ 5 _ _ _ _ _ (by decide) (by decide) (fun _=>by kernel_rfl) w
 rw [Yb h5] at h;by_cases h6:a0=6
 ·subst h6;simp at h;obtain ⟨rfl,rfl,rfl,rfl,rfl,rfl⟩:=h;exact blz.at_ 6 _ _ _ _ _ (by decide) (by decide) (fun _=>by kernel_rfl) w
 rw [Yb h6] at h;simp at h;obtain ⟨rfl,rfl,rfl,rfl,rfl,rfl⟩:=h;by_cases h0:a0<1
 ·exact blz.low a0 w h0
 ·exact blz.high a0 w (by omega)
theorem prim8:bkz.f 400 285=some true:=by kernel_rfl
theorem prim16:bkz.f 1500 69643=some true:=by kernel_rfl
theorem deg8:b0z.f 285=some 8:=by kernel_rfl
theorem deg16:b0z.f 69643=some 16:=by kernel_rfl
def Fresh (w:World) (g:Nat) (wb:Int):Prop:=w.heap[g]?=some (.cells (freshF wb (fpoly wb)) 172 (0,0))
theorem Fresh.fd {w:World} {g:Nat} {wb:Int} (h:Fresh w g wb) (S:Nat->Prop) (hg: ¬S g):Fd w g wb (fpoly wb) S:=⟨hg, .inl h⟩
theorem gf_New.calls (wb : Int) (hw : wb = 8 \/ wb = 16) (W : World) :
  Calls Tryz.prog 81 #[.int .i64 wb, .int .u32 (fpoly wb)] W fun e w'=> ∃g:Nat,e= .returned (.pointer (some ⟨g,0,none⟩))/\Fresh w' g wb/\W.heap.size<=g/\Below W.heap.size W w':=by
 rcases hw with rfl|rfl
 ·have HP:=Za prim8;have HD:=Za deg8;show Calls Tryz.prog 81 #[.int .i64 8, .int .u32 285] W _;go_enter Tryz.func81,Tryz.ntmps81
  go_wp2_with (first|(go_at_call 124;refine (b0z.calls _ _ _ HD.out).mono ?_;rintro e w9 ⟨rfl,m9,rfl⟩)|(go_at_call 125;refine (bkz.calls 400 _ _ _ HP.out).mono ?_;rintro e w9 ⟨rfl,hB⟩))
  go_ret;exact ⟨_,rfl,heap_alloc_new _ _,hB.size,amz (w:=W) ⟨hB.os,hB.tape,hB.output,hB.size,hB.block⟩ _⟩
 ·have HP:=Za prim16;have HD:=Za deg16;show Calls Tryz.prog 81 #[.int .i64 16, .int .u32 69643] W _;go_enter Tryz.func81,Tryz.ntmps81
  go_wp2_with (first|(go_at_call 124;refine (b0z.calls _ _ _ HD.out).mono ?_;rintro e w9 ⟨rfl,m9,rfl⟩)|(go_at_call 125;refine (bkz.calls 1500 _ _ _ HP.out).mono ?_;rintro e w9 ⟨rfl,hB⟩))
  go_ret;exact ⟨_,rfl,heap_alloc_new _ _,hB.size,amz (w:=W) ⟨hB.os,hB.tape,hB.output,hB.size,hB.block⟩ _⟩
def pbits (p:Int):Int:=if p=2 then 16 else 8
theorem egz (p:Int):pbits p=8\/pbits p=16:=by unfold pbits;split<;>simp
theorem profile_told {p:Int} (h:1<=p/\p<=6): ∃s l m,blz.f p=some (s,pbits p,fpoly (pbits p),l,m,true):=by
 obtain ⟨h1,h2⟩:=h;have:p=1\/p=2\/p=3\/p=4\/p=5\/p=6:=by omega
 rcases this with rfl|rfl|rfl|rfl|rfl|rfl<;>exact ⟨_,_,_,rfl⟩
theorem eQz.calls (p : Int) (h : 1 <= p /\ p <= 6) (W : World) :
  Calls Tryz.prog 45 #[.int .i64 p] W fun e w'=> ∃g:Nat,e= .returned (.pointer (some ⟨g,0,none⟩))/\Fresh w' g (pbits p)/\W.heap.size<=g/\Below W.heap.size W w':=by
 obtain ⟨s,l,m,h0⟩:=profile_told h;have H0:=Za h0;have HN:=Za (gf_New.calls (pbits p) (egz p));generalize pbits p=wb at H0 HN|-;generalize fpoly wb=q at H0 HN;clear h h0;go_enter Tryz.func45,Tryz.ntmps45
 go_wp2_with (first|(go_at_call 75;refine (blz.calls p _ _ _ _ _ _ _ H0.out).mono ?_;rintro e w9 ⟨rfl,hB⟩)|(go_at_call 81;refine (HN.out _).mono ?_;rintro e w8 ⟨g,rfl,q1,q2,q3⟩))
 go_ret;have e1:=hB.size;exact ⟨g,rfl,q1,by simp at q2;omega,(amz hB _).trans (q3.mono (by simp;omega))⟩
def dotF (wb:Int):List Int->List Int->Int->Int
 |x::a,y::b,s=>dotF wb a b (Go.bits .xor .i64 s (gmul wb x y))
 |_,_,s=>s
theorem dotF_drop (wb:Int) (a b:List Int) (s:Int) (k:Nat) (x y:Int) (hx:a[k]?=some x) (hy:b[k]?=some y):dotF wb (a.drop k) (b.drop k) s=dotF wb (a.drop (k+1)) (b.drop (k+1)) (Go.bits .xor .i64 s (gmul wb x y)):=by
 obtain ⟨h1,rfl⟩:=Zk hx;obtain ⟨h2,rfl⟩:=Zk hy;rw [List.drop_eq_getElem_cons h1,List.drop_eq_getElem_cons h2,dotF]
theorem dotF_end (wb:Int) (a b:List Int) (s:Int):dotF wb (a.drop a.length) b s=s:=by
 rw [List.drop_length];cases b<;>rfl
abbrev NotG (g:Nat):Nat->Prop:=fun k=>k≠g
theorem F_bb {α:Type} {d:Kd α} {W W1:World} {g:Nat} {A:Option Addr} {n:Nat} {xs:List α} (h:Kd.F d W (NotG g) A n xs) (hb:BB W W1 g):Kd.F d W1 (NotG g) A n xs:=Kd.F_keep h hb.keep (fun _ hk=>hk)
theorem matrix_dot.calls (g : Nat) (S : Nat -> Prop) (wb : Int) (A B : Option Addr) (ca cb : Nat) (a b : List Int) (W : World) (hw : wb = 8 \/ wb = 16) (hF : Fd W g wb (fpoly wb) S) (hS : ∀ k, S k -> k < W.heap.size) (hla : a.length <= 1000) (hlb : a.length <= b.length)
  (ha:Kd.F (Kd.int .i64) W (NotG g) A a.length a) (hb:Kd.F (Kd.int .i64) W (NotG g) B b.length b):
  Calls Tryz.prog 185 #[.pointer (some ⟨g,0,none⟩), .slice A a.length ca, .slice B b.length cb] W fun e w'=>e= .returned (.int .i64 (dotF wb a b 0))/\Fd w' g wb (fpoly wb) S/\BB W w' g:=by
 have HF:=Za hF;have HS:=Za hS;have HW:=Za hw;have HA:=Za ha;have HB:=Za hb;obtain ⟨R,hR⟩: ∃R,dotF wb a b 0=R:=⟨_,rfl⟩;rw [hR];have HR:=Za (show dotF wb (a.drop 0) (b.drop 0) 0=R from hR);clear hF hS hw ha hb hR;go_enter Tryz.func185,Tryz.ntmps185;go_wp2
 go_loopw [7,12] (fun s i wr=> ∃(k:Nat) (z:Int),k<=a.length/\s= .int .i64 z/\i= .int .i64 k/\Aside0 (dotF wb (a.drop k) (b.drop k) z=R)/\Aside0 (Fd wr g wb (fpoly wb) S)/\Aside0 (BB W wr g)) (fun _ i _=>a.length - (intOf i).toNat)
 case atStart=>exact ⟨0,0,Nat.zero_le _,rfl,rfl,HR,HF,⟨BB.refl _ _⟩⟩
 clear HR HF;obtain ⟨k,z,hk,rfl,rfl,HR,HF,HBB⟩:=hrel;by_cases hlt:k<a.length
 ·obtain ⟨x,hx⟩: ∃x,a[k]?=some x:=⟨_,Zf hlt⟩;obtain ⟨y,hy⟩: ∃y,b[k]?=some y:=⟨_,Zf (by omega)⟩;obtain ⟨ad,rfl,hc1⟩:=ckz (Kd.F_now (F_bb HA.out HBB.out)) k x hx;obtain ⟨bd,rfl,hc2⟩:=ckz (Kd.F_now (F_bb HB.out HBB.out)) k y hy;have HR1:=Za ((dotF_drop wb a b z k x y hx hy).symm.trans HR.out);have hltb:k<b.length:=by omega
  clear hx hy
  go_wp2_with (first|(go_at_call 103;refine (csz.calls g S wb x y _ HW.out HF.out (fun k hk=>Zp (HS.out k hk) HBB.out.size)).mono ?_;rintro e w3 ⟨rfl,q1,q2⟩))
  go_roundw
  case rel=>exact ⟨k+1,_,by omega,rfl,by go_num,HR1,⟨q1⟩,⟨HBB.out.trans q2⟩⟩
  case measure=>simp [intOf];omega
 ·obtain rfl:k=a.length:=by omega
  have HE:=Za ((dotF_end wb a (b.drop a.length) z).symm.trans HR.out);go_wp2;go_ret;refine ⟨?_,HF.out,HBB.out⟩;rw [<-HE.out];rfl
theorem append_int_run {W : World} {base : Nat} {v : Value} {xs : List Int} (z : Int) (HO : (Kd.int .i64).R 3 W base (fun _ => True) v xs) (hb : base <= W.heap.size) (hl : xs.length <= 1000) :
  ∃v1 w1,(Builtin.append_ #[57,57] 57 #[v, .slice (some ⟨W.heap.size,0,none⟩) 1 1]).run Tryz.prog (W.alloc (.cells #[.int .i64 z] 3))= .ok v1 w1/\(Kd.int .i64).R 3 w1 base (fun _=>True) v1 (xs++ [z])/\W.grownBy w1 v.ownBlock/\(v1.ownBlock=v.ownBlock\/ ∃b,v1.ownBlock=some b/\W.heap.size<=b):=by
 obtain ⟨h0,inner,hown,hr⟩:=HO;obtain ⟨i0,hi,hz0,hz1,hz2⟩:=info_parts info3;have hcell:(W.alloc (.cells #[.int .i64 z] 3)).heap[W.heap.size]?=some (.cells #[.int .i64 z] 3 (0,0)):=heap_alloc_new _ _
 obtain ⟨v1,w1,hrun,h1,h2, -,h4⟩:=run_append_own_at (P:=Tryz.prog) (w:=W.alloc (.cells #[.int .i64 z] 3)) base 57 57 3 i0 (.int .i64 0) 1 8 Tryz.underlying57 hi hz0 hz1 hz2 rfl (by decide) v xs.length inner (eVz hown (amz (Zw _ _) _)) ⟨W.heap.size,0,none⟩ 1 1 [.int .i64 z] rfl
  (fun j u hu=>by
   cases j with
   |succ j=>simp at hu
   |zero=>
    obtain rfl:Value.int .i64 z=u:=by simpa using hu
    exact (abz hcell 0).trans rfl) (by simp [Value.oneCell']) (by unfold maxLen;omega) (by omega) (by simp;omega)
 have hgW:W.grownBy w1 v.ownBlock:=(World.grownBy_alloc W _ _).trans h2
 have hat:v1.ownBlock=v.ownBlock\/ ∃b,v1.ownBlock=some b/\W.heap.size<=b:=by
  rcases h4 with h4|h4
  ·exact .inl h4
  ·exact .inr ⟨_,h4,by simp⟩
 exact ⟨v1,w1,hrun,Kd.eDz h0 hr (okp:=fun _=>False) (show (Kd.int .i64).M W base (fun _=>False) z [.int .i64 z] from rfl) (fun _ h=>h.elim) (fun _ _=>trivial) h1 hgW hat,hgW,hat⟩
theorem R_noncells {X Y:World} {row:Option Nat} {base:Nat} {ok:Nat->Prop} {v:Value} {xs:List Int} {e:Nat} (h:(Kd.int .i64).R e X base ok v xs) (hg:X.grownBy Y row) (hr: ∀r,row=some r-> ∃o:Obj,X.heap[r]?=some o/\o.isCells=false):(Kd.int .i64).R e Y base ok v xs:=by
 refine Kd.aQz (Kd.c2z (Kd.b9z h) (fun k hk=> ?_)) (fun k hk=>hk.1);obtain ⟨-, -,hlt,q, -,cells,hc⟩:=hk;exact grownBy_keeps_cells hg hr hc rfl
theorem Fd_noncells {X Y:World} {row:Option Nat} {g:Nat} {wb p:Int} {S:Nat->Prop} (h:Fd X g wb p S) (hg:X.grownBy Y row) (hr: ∀r,row=some r-> ∃o:Obj,X.heap[r]?=some o/\o.isCells=false):Fd Y g wb p S:=by
 obtain ⟨h1,h2|⟨h8,hp,a,b,h3,ha,hb,na,nb⟩⟩:=h
 ·exact ⟨h1, .inl ((grownBy_keeps_cells hg hr h2 rfl).trans h2)⟩
 ·exact ⟨h1, .inr ⟨h8,hp,a,b,(grownBy_keeps_cells hg hr h3 rfl).trans h3,(grownBy_keeps_cells hg hr ha rfl).trans ha,(grownBy_keeps_cells hg hr hb rfl).trans hb,na,nb⟩⟩
theorem row_atF {α : Type} {d : Kd α} {e : Nat} {W : World} {ok : Nat -> Prop} {ad : Addr} {rows : List (List α)} (h : Kd.F (Kd.slice e d) W ok (some ad) rows.length rows) (k : Nat) (x : List α) (hx : rows[k]? = some x) :
  ∃A' c',W.cell? (ad.add k)=some (.slice A' x.length c')/\x.length<=c'/\Kd.F d W ok A' x.length x:=by
 have hlt:=(Zk hx).1;obtain ⟨ad',c,hA,hl,hK,hc, -⟩:=Kd.F_get h ([] :List α) (k:Int) (by omega) (by omega);obtain rfl:ad=ad':=Zn hA;rw [Zu,Zm,hx] at hK;obtain ⟨A',c',rfl,hle,hF⟩:=Kd.czz hK;refine ⟨A',c',?_,hle,hF⟩;have:=hc 0 _ rfl
 simpa [Kd.slice] using this
theorem ehz {P : Program} {fn : Func} {tmps : Array Value} {R : Ending -> World -> Prop} {n : Nat} : ∀ (Ds : List Nat) (w : World), Ds.Nodup -> (∀ D, D ∈ Ds -> w.heap[D]? = some (.deferred (some []))) ->
  (∀w',(∀k,k<w.heap.size->k∉Ds->w'.heap[k]?=w.heap[k]?)->w'.heap.size=w.heap.size->w'.os=w.os->w'.tape=w.tape->w'.output=w.output->LeavesInM Fence.wide n P fn tmps R [] .returning w')->
  LeavesInM Fence.wide n P fn tmps R (Ds.map fun D=> { target:= .collected D,args:= #[] }) .returning w
 | [],w,_,_,h=>h w (fun _ _ _=>rfl) rfl rfl rfl rfl
 |D::Ds,w,hn,hd,h=>by
  have h1:=hd D (List.mem_cons_self ..);have hlt:=(Array.getElem?_eq_some_iff.1 h1).1;refine ⟨by simp, .inl ⟨D,_,rfl,run_takeDeferred h1,?_⟩⟩;have hn':=List.nodup_cons.1 hn;refine ehz Ds _ hn'.2 (fun D' hD'=>(World.putObj_heap_other (fun e=>hn'.1 (by rw [<-e];exact hD'))).trans (hd D' (List.mem_cons_of_mem _ hD'))) (fun w' hk hs h3 h4 h5=> ?_);have hsz:(w.putObj D (.deferred none)).heap.size=w.heap.size:=by simp [World.putObj]
  exact h w' (fun k hk1 hk2=>(hk k (by rw [hsz];exact hk1) (fun e=>hk2 (List.mem_cons_of_mem _ e))).trans (World.putObj_heap_other (fun e=>hk2 (by simp [e])))) (hs.trans hsz) (h3.trans rfl) (h4.trans rfl) (h5.trans rfl)
theorem Fd.cells {W:World} {g:Nat} {wb p:Int} {S:Nat->Prop} (h:Fd W g wb p S): ∃cs,W.heap[g]?=some (.cells cs 172 (0,0)):=by
 obtain ⟨-,h|⟨-, -,a,b,h, -⟩⟩:=h
 ·exact ⟨_,h⟩
 ·exact ⟨_,h⟩
theorem Fd.grow {X Y:World} {g:Nat} {wb p:Int} {S:Nat->Prop} {row:Option Nat} (h:Fd X g wb p S) (hr: ∀k,row=some k->S k) (hg:X.grownBy Y row):Fd Y g wb p (fun k=>S k\/X.heap.size<=k):=
 h.more.move (fun k hk hlt=>hg.block k hlt (fun e=>hk (.inl (hr k e.symm))))
theorem F_block {W:World} {g c t:Nat} {cs:Array Value} {xs:List Int} (hg:W.heap[g]?=some (.cells cs t (0,0))) (ht:3≠t) (hc:W.heap[c]?=some (.cells (nums .i64 xs).toArray 3 (0,0))) (hl:xs.length<=1000):Kd.F (Kd.int .i64) W (NotG g) (some ⟨c,0,none⟩) xs.length xs:=by
 have hne:c≠g:=by
  rintro rfl;rw [hc] at hg;injection hg with hg
  injection hg with _ hg
  exact ht hg
 intro W' hW;have hc':=(hW c hne (a1z hc)).trans hc;refine ⟨rfl,by omega,fun _=>⟨_,rfl,fun j x hx=>⟨[.int .i64 x],rfl,rfl,fun i' u hu=> ?_⟩⟩⟩
 cases i' with
 |succ i'=>simp at hu
 |zero=>
  obtain rfl:Value.int .i64 x=u:=by simpa using hu
  have e:(⟨c,0,none⟩:Addr).add (j*(Kd.int .i64).sz+0)=⟨c,j,none⟩:=by
   show (⟨c,0,none⟩:Addr).add (j*1+0)=_;unfold Addr.add;split<;>simp_all
  rw [e,abz hc' _];simp [nums,hx]
theorem Fd_keepC {X Y:World} {g:Nat} {wb p:Int} {S:Nat->Prop} (h:Fd X g wb p S) (hm: ∀(k:Nat) (o:Obj),X.heap[k]?=some o->o.isCells=true->Y.heap[k]?=X.heap[k]?):Fd Y g wb p S:=by
 obtain ⟨h1,h2|⟨h8,hp,a,b,h3,ha,hb,na,nb⟩⟩:=h
 ·exact ⟨h1, .inl ((hm _ _ h2 rfl).trans h2)⟩
 ·exact ⟨h1, .inr ⟨h8,hp,a,b,(hm _ _ h3 rfl).trans h3,(hm _ _ ha rfl).trans ha,(hm _ _ hb rfl).trans hb,na,nb⟩⟩
theorem S_keepC {X Y:World} {base:Nat} {ok:Nat->Prop} {v:Value} {xs:List (List Int)} {e t:Nat} (h:Kd.S (dM e .i64) t X base ok v xs) (hm: ∀(k:Nat) (o:Obj),X.heap[k]?=some o->o.isCells=true->Y.heap[k]?=X.heap[k]?):Kd.S (dM e .i64) t Y base ok v xs:=by
 refine Kd.cBz (Kd.S_move (Kd.bLz h) (fun k hk=> ?_)) (fun k hk=>hk.1);obtain ⟨-, -,hlt,q, -,cells,hc⟩:=hk;exact hm _ _ hc rfl
def buz.f (a0:Int):Option (Bool):=if a0>=1 then (some (decide (a0<=20))) else (some false)
theorem buz.calls (a0 : Int) (r : Bool) (w : World) (h : buz.f a0 = some r) :
  Calls Tryz.prog 116 #[.int .i64 a0] w fun e w'=>e= .returned (.bool r)/\Drawn0 w w':=by
 have H:=h;clear h;unfold buz.f at H;by_cases c2:a0>=1
 ·rw [Ya c2] at H;have c2b0:decide (1<=a0)=true:=Zd c2;clear c2;obtain rfl:=Zn H;go_enter Tryz.func116,Tryz.ntmps116;go_wp2;go_ret;exact ⟨sd_,dn_⟩
 ·rw [Yb c2] at H;have c2b0:decide (1<=a0)=false:=Ze c2;clear c2;obtain rfl:=Zn H;go_enter Tryz.func116,Tryz.ntmps116;go_wp2;go_ret;exact ⟨sd_,dn_⟩
def chz.l0:Nat->Int->List Int->Int->Int->Option (List Int)
 |0,_,_,_,_=>none
 |k+1,x0,x5,x10,x11=>if x11<x10 then (if 0<=x11 then (if x11<(x5.length:Int) then (chz.l0 k x0 (x5.set (x11:Int).toNat (wrap64 (x0+x11))) x10 (wrap64 (x11+1))) else (none)) else (none)) else (some x5)
def chz.f (k:Nat) (a0:Int) (a1:Int):Option (List Int):=if 0<=a1 then (if (a1:Int).toNat<=35184372088832 then ((some (List.replicate (a1:Int).toNat 0:List Int)).bind fun y300=>(chz.l0 k a0 y300 (y300.length:Int) 0)) else (none)) else (none)
theorem chz.calls (k : Nat) (a0 : Int) (a1 : Int) (r : List Int) (w : World) (h : chz.f k a0 a1 = some r) :
  Calls Tryz.prog 118 #[.int .i64 a0, .int .i64 a1] w fun e w'=> ∃v0_:Value,e= .returned (v0_)/\Kd.R (Kd.int .i64) 3 w' w.heap.size (fun _=>True) v0_ r/\Below w.heap.size w w':=by
 have HB:=Za (Zw w.heap.size w);have H:=h;clear h;unfold chz.f at H;by_cases c3:0<=a1
 rotate_left
 ·rw [Yb c3] at H;exact Yf H (by simp)
 rw [Ya c3] at H;have c3b0:=Zz c3;have c3b1:=Zd c3;clear c3;by_cases c4:(a1:Int).toNat<=35184372088832
 rotate_left
 ·rw [Yb c4] at H;exact Yf H (by simp)
 rw [Ya c4] at H;have c4b0:=Zz c4;have c4b1:=Zd c4;clear c4;obtain ⟨y300,hy300⟩: ∃y_:List Int,y_=(List.replicate (a1:Int).toNat 0):=⟨_,rfl⟩
 first|rw [Zl, <-hy300] at H|rw [<-hy300] at H
 (try dsimp only at H)
 have Ny300:=Za hy300;clear hy300;have H':=Za H;clear H;go_enter Tryz.func118,Tryz.ntmps118
 go_wp2_with (first|((with_reducible refine a8z (N:=8) rfl ?_);refine Kd.R_make (Kd.int .i64) _ 3 rfl (N:=8) rfl 57 _ _ rfl a1 rfl rfl Tryz.underlying57 (.int .i64 0) 8 info3 rfl (by decide) (by omega) 0 (ok:=fun _=>True) (okp:=fun _=>True) rfl (fun _ hk=>hk) trivial (Zc as_) (Zt (Nat.mul_le_mul_right _ (Zc as_:a1.toNat<=35184372088832)) (by omega)) (Zw _ _) (Zv _) ?_;intro v301 w5 ho6 hb hg_ hnew_;clear hg_ hnew_;(first|rw [<-Ny300.out] at ho6|(simp only [Int.reduceToNat] at ho6;rw [<-Ny300.out] at ho6));have n_:=Zb (Za (Kd.bKz ho6 (aez bl_))) (hs_ HB hb);clear HB;obtain ⟨HO302,HB⟩:=n_;clear hb ho6;obtain ⟨Ao7,co7,eo7⟩:=Kd.bcz HO302.out;subst eo7))
 go_loopg [11] k (fun kq v11 w'=> ∃(x5_1:List Int) (x11_1:Int),v11= .int .i64 x11_1/\Aside0 (chz.l0 kq a0 x5_1 (y300.length:Int) x11_1=some r)/\Aside0 (kq<=k)/\Aside0 (Kd.R (Kd.int .i64) 3 w' w.heap.size (fun _=>True) (.slice Ao7 y300.length co7) x5_1)/\Aside0 (Below w.heap.size w w'))
 case atStart=>exact ⟨(y300),(0),sd_,H',⟨Zv _⟩,⟨xd_ HO302.out⟩,⟨bl_⟩⟩
 clear H';clear c3b0 c3b1 c4b0 c4b1;obtain ⟨x5_1,x11_1,rfl,HA,HK1,HO_5,HB⟩:=hrel;have hl5_1:=(Kd.aOz HO_5.out).1;rw [hl5_1] at HO_5
 (try simp only [hl5_1])
 rcases gk with _|k1
 ·exact Yf HA.out (by simp [chz.l0])
 have H:=HA.out;clear HA;simp only [chz.l0] at H;by_cases c8:x11_1<(y300.length:Int)
 rotate_left
 ·rw [Yb c8] at H;have c8b0:=Ze c8
  (first|(rw [hl5_1] at c8b0)|skip)
  clear c8;obtain rfl:=Zn H;go_wp2;go_ret;exact ⟨_,er_,xd_ HO_5.out,bl_⟩
 rw [Ya c8] at H;have c8b0:=Zd c8;clear c8;by_cases c9:0<=x11_1
 rotate_left
 ·rw [Yb c9] at H;exact Yf H (by simp)
 rw [Ya c9] at H;have c9b0:=Zd c9;clear c9;by_cases c10:x11_1<(x5_1.length:Int)
 rotate_left
 ·rw [Yb c10] at H;exact Yf H (by simp)
 rw [Ya c10] at H;have c10b0:=Zd c10;clear c10;obtain ⟨y303,hy303⟩: ∃y_:List Int,y_=(x5_1.set (x11_1:Int).toNat (wrap64 (a0+x11_1))):=⟨_,rfl⟩
 first|rw [Zl, <-hy303] at H|rw [<-hy303] at H
 (try dsimp only at H)
 have Ny303:=Za hy303;clear hy303;have H':=Za H;clear H;have p11:0<=(x11_1:Int):=Zc as_;have q11:(x11_1:Int)<((x5_1.length:Int):Int):=Zc as_;obtain ⟨go11,co11,eo11,gb11,gl11,cl11,HG11⟩:=Kd.dyz HO_5.out (by omega)
 (first|cases eo11|(injection eo11 with ea_ en_ ec_;(first|subst ea_|(injection ea_ with ea_;subst ea_));subst ec_;clear en_))
 have GB11:=Za gb11;have GG11:=Za HG11;clear gb11 gl11 HG11;obtain ⟨hx11_0,hf11_0⟩:=Kd.R_celln 0 HO_5.out (x11_1:Int) p11 q11;replace p11:=Zz p11;replace q11:=Zz q11;have HP12:=Kd.R_putg HO_5.out (x11_1:Int) (wrap64 (a0+x11_1))
 go_wp2_with (first|((with_reducible refine c9z (t:=3) (p:=19) rfl ?_);refine dQz (t:=3) (p:=19) (v:= ?vo_w13) (w1:=(wr.setCell ⟨go11,(x11_1:Int).toNat,none⟩ (.int .i64 (wrap64 (a0+x11_1))))) ?hg ?ho ?hn ?hr ?_;(case ho=>rfl);(case hg=>rfl);(case hn=>rfl);(case hr=>first|(go_simp;done)|(go_simp;rfl));intro w13 hw;have hg:wr.grownBy w13 (some go11):=(by rw [hw];exact HP12.2);have hp_:Kd.R (Kd.int .i64) 3 w13 w.heap.size (fun _=>True) (.slice (some ⟨go11,0,none⟩) x5_1.length co7) y303:=(by rw [hw,Ny303.out];exact HP12.1);clear HP12;have n_:=Zb (Za (hp_)) (Za ((by rw [hw];exact duz (HB.out) GB11.out:Below w.heap.size w w13)));clear HO_5 HB;obtain ⟨HO_5,HB⟩:=n_;clear hg hw hp_))
 (try simp only [<-hl5_1])
 go_roundg k1
 case measure=>have:=HK1.out;omega
 case rel=>exact ⟨(y303),(wrap64 (x11_1+1)),sd_,H',⟨by have:=HK1.out;omega⟩,⟨by (try simp only [hl5_1]);(with_reducible repeat (first|apply Kd.R_alloc|apply Kd.c7z|apply Kd.cGz));exact HO_5.out⟩,⟨bl_⟩⟩
end Go.Proofs.Xc
end
