-- Joined texts of this work (wip/tools/bundle.py).
import Derived.Test.YtpdakdcmahlghaaGreatBTrialTells17
set_option maxHeartbeats 8000000
set_option maxRecDepth 100000
set_option linter.unusedVariables false
set_option linter.unusedSimpArgs false
section
namespace Go.Proofs.Xc
open Go.RowKit Go.Proofs.Pw Go.Proofs.Pl Go.Proofs.Pm
attribute [local go_sem] bcz bdz bpz bqz a4z a5z bez bfz
def avz.j0:Nat->List (List Int)->Bool->Int->Int->Int->Option (Bool)
 |0,_,_,_,_,_=>none
 |k+1,x1,x19,x775000,x775001,x775002=>if x19=true then (some false) else (if 0<=x775001 then (if x775001<=(x1.length:Int) then ((aqz.f k x775000 x775001 x775002 (x1.take (x775001:Int).toNat)).bind fun bt780=>(if bt780.2=0 then ((a7z.f k bt780.1 (x1.drop (x775001:Int).toNat)).bind fun t788=>(some t788)) else (some false))) else (none)) else (none))
def avz.f (k:Nat) (a0_0:Int) (a0_1:Int) (a0_2:Int) (l1:List (List Int)):Option (Bool):=(aRz.f a0_0 a0_1 a0_2).bind fun t775=>(if t775=true then (avz.j0 k l1 ((l1.length:Int) !=(wrap64 (a0_1+a0_2))) a0_0 a0_1 a0_2) else (avz.j0 k l1 true a0_0 a0_1 a0_2))
def avz.T3:Bool×List (List Nat×List Nat):=(true, [([], []),([], []),([], []),([2], [2]),([1,3], [1,3]),([0,4], [0,4]),([5], [5]),([6], [6]),([6], [6]),([7,5,0,1,2,3,4,5,6,7], [7]),([8,9,0,1,2,3,4,5,6,7,8,9], [8])])
def avz.B3:List Nat:= [0,0,0,4,14,31,63,127,127,255,1023]
theorem avz.tab3:rtab .any (opsOf Tryz.f23 3)=avz.T3:=by kernel_rfl
theorem avz.bits3:waitsOk avz.T3.2 avz.B3=true:=by kernel_rfl
theorem avz.calls (k : Nat) (a0_0 : Int) (a0_1 : Int) (a0_2 : Int) (A1 : Option Addr) (c1 : Nat) (l1 : List (List Int)) (r : Bool) (w : World) (hr1 : Kd.C (Kd.slice 5 (Kd.int .u8)) w A1 l1.length l1) (hc1 : l1.length <= c1) (h : avz.f k a0_0 a0_1 a0_2 l1 = some r) :
  Calls Tryz.prog 23 #[.agg #[.int .i64 a0_0, .int .i64 a0_1, .int .i64 a0_2], .slice A1 l1.length c1] w fun e w'=>e= .returned (.bool r)/\Below w.heap.size w w':=by
 have hu23:=Tryz.underlying23;have HR1:=Za hr1;have HC1:=Za hc1;clear hr1 hc1;have HB:=Za (Zw w.heap.size w);have H:=h;clear h;unfold avz.f at H;have HC3:=Za H;clear H;go_enter Tryz.func23,Tryz.ntmps23
 go_upto_region 1 with (first|((with_reducible refine aMz (N:=2) rfl ?_);(try (refine aVz (by rfl) ?_;dsimp only));refine bx_ 2 #[.int .i64 a0_0, .int .i64 a0_1, .int .i64 a0_2] 23 ?_;intro gb774 hg w4 hbox hb;have n_:=Zb (hs_ HB hb) (Zb (Za (hbox)) (Zb (ag_ HB gb774) (ag_ HB gb774)));clear HB;obtain ⟨HB,BK774,GW774,GE774⟩:=n_;clear hb hbox hg))
 (try simp only [Act.put,Zg,Zh,Zi])
 go_cut [19] (fun v19 wc=> ∃(kq:Nat) (x19_2:Bool),v19= .bool x19_2/\Aside0 (avz.j0 kq l1 x19_2 a0_0 a0_1 a0_2=some r)/\Aside0 (kq<=k)/\Aside0 (wc.heap[gb774]?=some (.cells #[.int .i64 a0_0, .int .i64 a0_1, .int .i64 a0_2] 23 (0,0)))/\Aside0 (Below w.heap.size w wc))
 case first=>
  have H:=HC3.out;clear HC3;obtain ⟨t775,A5,H⟩:=ob_ H
  (try dsimp only at H)
  by_cases c6:t775=true
  ·subst c6;rw [Ya rfl] at H;have H':=Za H;clear H;obtain ⟨_,_,_,_,_,_⟩:=bc3_ BK774.out
   go_wp2_with (first|((with_reducible refine aaz (f:=48) rfl ?_);refine gl_ (some 8) Tryz.func48 #[.agg #[.int .i64 a0_0, .int .i64 a0_1, .int .i64 a0_2]] ?_;(with_reducible refine (aRz.calls a0_0 a0_1 a0_2 true _ A5.out).mono ?_);rintro e w8 ⟨rfl,hb⟩;refine ⟨_,rfl,?_⟩;have n_:=Zb (bb_ BK774 hb) (hs_ HB hb);clear BK774 HB;obtain ⟨BK774,HB⟩:=n_;(try clear hb);obtain ⟨_,_,_,_,_,_⟩:=bc3_ BK774.out))
   go_meet
   case rel=>exact ⟨_,(((l1.length:Int) !=(wrap64 (a0_1+a0_2)))),sd_,H',⟨by first|omega|exact Zv _⟩,⟨bk_⟩,⟨bl_⟩⟩
  ·replace c6:=Zr c6;subst c6;rw [Yb (show¬(false=true) by decide)] at H;have H':=Za H;clear H;obtain ⟨_,_,_,_,_,_⟩:=bc3_ BK774.out
   go_wp2_with (first|((with_reducible refine aaz (f:=48) rfl ?_);refine gl_ (some 8) Tryz.func48 #[.agg #[.int .i64 a0_0, .int .i64 a0_1, .int .i64 a0_2]] ?_;(with_reducible refine (aRz.calls a0_0 a0_1 a0_2 false _ A5.out).mono ?_);rintro e w11 ⟨rfl,hb⟩;refine ⟨_,rfl,?_⟩;have n_:=Zb (bb_ BK774 hb) (hs_ HB hb);clear BK774 HB;obtain ⟨BK774,HB⟩:=n_;(try clear hb)))
   go_meet
   case rel=>exact ⟨_,(true),sd_,H',⟨by first|omega|exact Zv _⟩,⟨bk_⟩,⟨bl_⟩⟩
 case rest=>
  clear HC3;obtain ⟨kq,x19_2,rfl,HA,HJ2,BK774,HB⟩:=hcut;rcases kq with _|kj2
  ·exact Yf HA.out (by simp [avz.j0])
  have H:=HA.out;clear HA;simp only [avz.j0] at H;by_cases c12:x19_2=true
  ·subst c12;rw [Ya rfl] at H;obtain rfl:=Zn H;go_wp2;go_ret;exact ⟨er_,bl_⟩
  ·replace c12:=Zr c12;subst c12;rw [Yb (show¬(false=true) by decide)] at H;by_cases c13:0<=a0_1
   rotate_left
   ·rw [Yb c13] at H;exact Yf H (by simp)
   rw [Ya c13] at H;have c13b0:=Zz c13;have c13b1:=Zd c13;clear c13;by_cases c14:a0_1<=(l1.length:Int)
   rotate_left
   ·rw [Yb c14] at H;exact Yf H (by simp)
   rw [Ya c14] at H;have c14b0:=Zz c14;have c14b1:=Zd c14;clear c14;obtain ⟨y776,hy776⟩: ∃y_:List (List Int),y_=(l1.take (a0_1:Int).toNat):=⟨_,rfl⟩
   first|rw [Zl, <-hy776] at H|rw [<-hy776] at H
   (try dsimp only at H)
   have Ny776:=Za hy776;clear hy776;obtain ⟨⟨t780,t783⟩,A15,H⟩:=ob_ H
   (try dsimp only at H)
   by_cases c16:t783=0
   rotate_left
   ·rw [Yb c16] at H;have c16b0:(t783==0)=false:=Zq c16;have c16b1:(t783 !=0)=true:=Yd c16;obtain rfl:=Zn H
    try go_wp2
    have n_:=Zb (Za (ccz BK774.out)) (Za (bTz HB.out));clear BK774 HB;obtain ⟨BK774,HB⟩:=n_;have q27:(a0_1:Int)<=((l1.length:Int):Int):=Zc as_;obtain ⟨i027,hi027,_,hsz27,_⟩:=info_parts info34;have hroom27:l1.length<=c1:=HC1.out;have hC27:Kd.C (Kd.slice 5 (Kd.int .u8)) _ A1 l1.length l1:=HR1.out;have hcut27:=cut_to (P:=Tryz.prog) 24 34 .i64 Tryz.underlying24 hi027 A1 l1.length c1 a0_1 (Zc as_) q27 hroom27;have hr27:=Kd.C_take (m:=(a0_1:Int).toNat) hC27 (by omega);have hy27:y776.length=(a0_1:Int).toNat:=(by rw [Ny776.out,List.length_take];omega);rw [<-Ny776.out] at hr27;rw [<-hy27] at hcut27;have HR779:=Za hr27;have HC779:=Za (show y776.length<=c1 from by omega);clear hr27 hC27 hroom27 hi027 hsz27;have KY27:=Za hy27;clear hy27;replace q27:=Zz q27;refine bPz (n:=11) (S:=fun w'=>w'.cell? ⟨gb774,0,none⟩=some (.int .i64 a0_0)/\w'.cell? ⟨gb774,1,none⟩=some (.int .i64 a0_1)/\w'.cell? ⟨gb774,2,none⟩=some (.int .i64 a0_2)) (ds:= []) (bA 11 0) kr_ rfl rfl ⟨(abz BK774.out 0).trans rfl,(abz BK774.out 1).trans rfl,(abz BK774.out 2).trans rfl⟩ (fun hHeld=> ?_);refine cdz avz.tab3 avz.bits3 (fun HT_ HW_=> ?_)
    generalize wc.drew=w26 at BK774 HB HR779 hHeld|-;refine pv_ 1 22 2 HT_ ?_;refine pv_ 2 23 6 HT_ ?_;refine tw_ 0 21 7 HT_ HW_ hHeld ?_;refine tw_ 3 24 15 HT_ HW_ hHeld ?_;refine pv_ 4 25 31 HT_ ?_;refine one_ (i:=5) (N:=some 26) (bA 11 63) rfl rfl (cbz HT_.out kr_) (by decide) (fun K hK=> ?_);refine goes_ Tryz.func20 kr_ rfl #[.agg #[.int .i64 a0_0, .int .i64 a0_1, .int .i64 a0_2], .slice A1 y776.length c1] (by rfl) rfl rfl ar_ ?_
    with_reducible refine (aqz.calls kj2 a0_0 a0_1 a0_2 _ _ y776 t780 t783 _ ?side1 ?side2 A15.out).mono ?_
    (case side1=>repeat (first|exact (Kd.azz HR779.out HB.out)|(with_reducible refine Kd.b7z ?_ _)|(with_reducible refine Kd.bDz ?_ _)|(with_reducible refine Kd.coz ?_)))
    (case side2=>exact HC779.out)
    rintro e w28 ⟨v781,rfl,ho0,hb⟩;refine ⟨_,rfl,?_⟩;have n_:=Zb (Za (Kd.cXz ho0 (adz bl_))) (Zb (bb_ BK774 hb) (hs_ HB hb));clear BK774 HB;obtain ⟨HO782,BK774,HB⟩:=n_
    (try clear hb)
    (try clear hb2)
    (try clear hk)
    (try clear hi)
    (try clear ho0)
    refine hK.out _ _ ⟨(abz BK774.out 0).trans rfl,(abz BK774.out 1).trans rfl,(abz BK774.out 2).trans rfl⟩ (fun hHeld=> ?_);clear hK K;refine norm_ (a':= ?_) ?_ ?_;rotate_left
    ·show Act.put _ (some 26) _=_;simp only [Act.put,Zg,Zh,Zi,i64_w,i32_w];rfl
    refine pv_ 6 20 127 HT_ ?_;refine pv_ 7 27 255 HT_ ?_;refine pv_ 8 28 511 HT_ ?_;refine pv_ 9 5 1023 HT_ ?_;refine pv_ 10 6 2047 HT_ ?_;refine done_ (cCz HT_.out kr_) ?_
    try go_wp2
    go_ret;exact ⟨er_,bl_⟩
   rw [Ya c16] at H;have c16b0:(t783==0)=true:=Ye c16;have c16b1:(t783 !=0)=false:=Yc c16;clear c16;have c17b0:=Zz (Zc as_:0<=a0_1);have c18b0:=Zz (Zc as_:a0_1<=(l1.length:Int));obtain ⟨y784,hy784⟩: ∃y_:List (List Int),y_=(l1.drop (a0_1:Int).toNat):=⟨_,rfl⟩
   first|rw [Zl, <-hy784] at H|rw [<-hy784] at H
   (try dsimp only at H)
   have Ny784:=Za hy784;clear hy784;obtain ⟨t788,A19,H⟩:=ob_ H
   (try dsimp only at H)
   obtain rfl:=Zn H
   try go_wp2
   have n_:=Zb (Za (ccz BK774.out)) (Za (bTz HB.out));clear BK774 HB;obtain ⟨BK774,HB⟩:=n_;have q21:(a0_1:Int)<=((l1.length:Int):Int):=Zc as_;obtain ⟨i021,hi021,_,hsz21,_⟩:=info_parts info34;have hroom21:l1.length<=c1:=HC1.out;have hC21:Kd.C (Kd.slice 5 (Kd.int .u8)) _ A1 l1.length l1:=HR1.out;have hcut21:=cut_to (P:=Tryz.prog) 24 34 .i64 Tryz.underlying24 hi021 A1 l1.length c1 a0_1 (Zc as_) q21 hroom21;have hr21:=Kd.C_take (m:=(a0_1:Int).toNat) hC21 (by omega);have hy21:y776.length=(a0_1:Int).toNat:=(by rw [Ny776.out,List.length_take];omega);rw [<-Ny776.out] at hr21;rw [<-hy21] at hcut21;have HR779:=Za hr21;have HC779:=Za (show y776.length<=c1 from by omega);clear hr21 hC21 hroom21 hi021 hsz21;have KY21:=Za hy21;clear hy21;replace q21:=Zz q21;refine bPz (n:=11) (S:=fun w'=>w'.cell? ⟨gb774,0,none⟩=some (.int .i64 a0_0)/\w'.cell? ⟨gb774,1,none⟩=some (.int .i64 a0_1)/\w'.cell? ⟨gb774,2,none⟩=some (.int .i64 a0_2)) (ds:= []) (bA 11 0) kr_ rfl rfl ⟨(abz BK774.out 0).trans rfl,(abz BK774.out 1).trans rfl,(abz BK774.out 2).trans rfl⟩ (fun hHeld=> ?_);refine cdz avz.tab3 avz.bits3 (fun HT_ HW_=> ?_)
   generalize wc.drew=w20 at BK774 HB HR779 hHeld|-;refine pv_ 1 22 2 HT_ ?_;refine pv_ 2 23 6 HT_ ?_;refine tw_ 0 21 7 HT_ HW_ hHeld ?_;refine tw_ 3 24 15 HT_ HW_ hHeld ?_;refine pv_ 4 25 31 HT_ ?_;refine one_ (i:=5) (N:=some 26) (bA 11 63) rfl rfl (cbz HT_.out kr_) (by decide) (fun K hK=> ?_);refine goes_ Tryz.func20 kr_ rfl #[.agg #[.int .i64 a0_0, .int .i64 a0_1, .int .i64 a0_2], .slice A1 y776.length c1] (by rfl) rfl rfl ar_ ?_
   with_reducible refine (aqz.calls kj2 a0_0 a0_1 a0_2 _ _ y776 t780 t783 _ ?side1 ?side2 A15.out).mono ?_
   (case side1=>repeat (first|exact (Kd.azz HR779.out HB.out)|(with_reducible refine Kd.b7z ?_ _)|(with_reducible refine Kd.bDz ?_ _)|(with_reducible refine Kd.coz ?_)))
   (case side2=>exact HC779.out)
   rintro e w22 ⟨v781,rfl,ho0,hb⟩;refine ⟨_,rfl,?_⟩;have n_:=Zb (Za (Kd.cXz ho0 (adz bl_))) (Zb (bb_ BK774 hb) (hs_ HB hb));clear BK774 HB;obtain ⟨HO782,BK774,HB⟩:=n_
   (try clear hb)
   (try clear hb2)
   (try clear hk)
   (try clear hi)
   (try clear ho0)
   refine hK.out _ _ ⟨(abz BK774.out 0).trans rfl,(abz BK774.out 1).trans rfl,(abz BK774.out 2).trans rfl⟩ (fun hHeld=> ?_);clear hK K;refine norm_ (a':= ?_) ?_ ?_;rotate_left
   ·show Act.put _ (some 26) _=_;simp only [Act.put,Zg,Zh,Zi,i64_w,i32_w];rfl
   refine pv_ 6 20 127 HT_ ?_;refine pv_ 7 27 255 HT_ ?_;refine pv_ 8 28 511 HT_ ?_;refine pv_ 9 5 1023 HT_ ?_;refine pv_ 10 6 2047 HT_ ?_;refine done_ (cCz HT_.out kr_) ?_;obtain ⟨_,_,_,_,_,_⟩:=bc3_ BK774.out;have q24:(a0_1:Int)<=((l1.length:Int):Int):=Zc as_;obtain ⟨i024,hi024,_,hsz24,_⟩:=info_parts info34;have hroom24:l1.length<=c1:=HC1.out;have hC24:Kd.C (Kd.slice 5 (Kd.int .u8)) _ A1 l1.length l1:=HR1.out;have q024:(0:Int)<=(a0_1:Int):=Zc as_;have hcut24:=elz (P:=Tryz.prog) 24 34 .i64 Tryz.underlying24 hi024 1 hsz24 A1 l1.length c1 a0_1 q024 q24;have hr24:=Kd.C_drop (m:=(a0_1:Int).toNat) (c:=c1) hC24 (by omega) hroom24;obtain ⟨A24,hA24⟩: ∃Aq_,Aq_=(if c1=(a0_1:Int).toNat then A1 else (A1:Option Addr).map (·.add ((a0_1:Int).toNat*1))):=⟨_,rfl⟩;obtain ⟨c24,hc24⟩: ∃cq_,cq_=c1 - (a0_1:Int).toNat:=⟨_,rfl⟩;have hy24:y784.length=l1.length - (a0_1:Int).toNat:=(by rw [Ny784.out,List.length_drop] <;>omega)
   rw [show (l1).drop (a0_1:Int).toNat=y784 from Ny784.out.symm] at hr24;replace hr24:Kd.C (Kd.slice 5 (Kd.int .u8)) _ A24 y784.length y784:=(by rw [hA24];exact hr24);rw [<-hy24, <-hA24, <-hc24] at hcut24;have HR787:=Za hr24;have HC787:=Za (show y784.length<=c24 from by rw [hy24,hc24];exact Nat.sub_le_sub_right hroom24 _);clear hr24 hC24 hroom24 hi024 hsz24 hc24;have KY24:=Za hy24;have KA24:=Za hA24;clear hy24 hA24;replace q24:=Zz q24;obtain ⟨Ao25,co25,eo25⟩:=Kd.S_slice HO782.out;subst eo25
   try go_wp2_with (first|(go_at_call 21;(with_reducible refine (a7z.calls kj2 _ _ t780 _ _ y784 t788 _ (xd_ (Kd.dSz HO782.out).2.2) ((Kd.dSz HO782.out).2.1) (xd_ (Kd.azz HR787.out HB.out)) (HC787.out) A19.out).mono ?_);rintro e w' ⟨rfl,⟨nd,rfl⟩⟩))
   go_ret;exact ⟨er_,bl_⟩
def bOz.f (a0_0:Int) (a0_1:Int) (a0_2:Int):Option (Int):=(aNz.f a0_0).bind fun bt804=>(some bt804.2.2.2.1)
theorem bOz.calls (a0_0 : Int) (a0_1 : Int) (a0_2 : Int) (r : Int) (w : World) (h : bOz.f a0_0 a0_1 a0_2 = some r) :
  Calls Tryz.prog 136 #[.agg #[.int .i64 a0_0, .int .i64 a0_1, .int .i64 a0_2]] w fun e w'=>e= .returned (.int .u8 r)/\Below w.heap.size w w':=by
 have hu23:=Tryz.underlying23;have hu79:=Tryz.underlying79;have HB:=Za (Zw w.heap.size w);have H:=h;clear h;unfold bOz.f at H;obtain ⟨⟨t804,t805,t806,t807,t808,t809⟩,A2,H⟩:=ob_ H
 (try dsimp only at H)
 obtain rfl:=Zn H;go_enter Tryz.func136,Tryz.ntmps136
 go_wp2_with (first|((with_reducible refine aMz (N:=1) rfl ?_);refine bx_ 1 #[.int .i64 a0_0, .int .i64 a0_1, .int .i64 a0_2] 23 ?_;intro gb803 hg w3 hbox hb;have n_:=Zb (hs_ HB hb) (Zb (Za (hbox)) (Zb (ag_ HB gb803) (ag_ HB gb803)));clear HB;obtain ⟨HB,BK803,GW803,GE803⟩:=n_;clear hb hbox hg;obtain ⟨_,_,_,_,_,_⟩:=bc3_ BK803.out)|((with_reducible refine aaz (f:=50) rfl ?_);refine gl_ (some 8) Tryz.func50 #[.int .i64 a0_0] ?_;(with_reducible refine (aNz.calls a0_0 t804 t805 t806 t807 t808 t809 _ A2.out).mono ?_);rintro e w5 ⟨rfl,hb⟩;refine ⟨_,rfl,?_⟩;have n_:=Zb (bb_ BK803 hb) (hs_ HB hb);clear BK803 HB;obtain ⟨BK803,HB⟩:=n_;(try clear hb))|((with_reducible refine aMz (N:=3) rfl ?_);refine b4z ?hg (N:=3) ?hd (cs:= #[.string (⟨#[]⟩:ByteArray), .int .i64 0, .int .u32 0, .int .u8 0, .int .i64 0]) (t:=79) ?hr ?_;(case hd=>rfl);(case hg=>rfl);(case hr=>first|(go_simp;done)|(go_simp;rfl));intro gb810 hg w6 hbox hb;have n_:=Zb (bb_ BK803 hb) (Zb (hs_ HB hb) (Zb (Za (hbox)) (Zb (ag_ HB gb810) (Zb (ag_ HB gb810) (Zb (n1_ BK803 gb810) (n2_ BK803 gb810))))));clear BK803 HB;obtain ⟨BK803,HB,BK810,GW810,GE810,NB803_810,NB810_803⟩:=n_;clear hb hbox hg;have hnb7:=NB810_803.out;have hnc7:=NB803_810.out;obtain ⟨_,_,_,_,_,_,_,_,_,_⟩:=bc5_ BK810.out))
 go_ret;exact ⟨er_,bl_⟩
def b8z.f (a0:Int):Option (Int):=if a0=106 then (some 8) else (if a0=105 then (some 16) else (some 1))
theorem b8z.calls (a0 : Int) (r : Int) (w : World) (h : b8z.f a0 = some r) :
  Calls Tryz.prog 137 #[.int .u8 a0] w fun e w'=>e= .returned (.int .i64 r)/\Drawn0 w w':=by
 have H:=h;clear h;unfold b8z.f at H;by_cases c2:a0=106
 ·rw [Ya c2] at H;have c2b0:(a0==106)=true:=Ye c2;have c2b1:(a0 !=106)=false:=Yc c2;clear c2;obtain rfl:=Zn H;go_enter Tryz.func137,Tryz.ntmps137;go_wp2;go_ret;exact ⟨sd_,dn_⟩
 ·rw [Yb c2] at H;have c2b0:(a0==106)=false:=Zq c2;have c2b1:(a0 !=106)=true:=Yd c2;by_cases c3:a0=105
  ·rw [Ya c3] at H;have c3b0:(a0==105)=true:=Ye c3;have c3b1:(a0 !=105)=false:=Yc c3;clear c3;obtain rfl:=Zn H;go_enter Tryz.func137,Tryz.ntmps137;go_wp2;go_ret;exact ⟨sd_,dn_⟩
  ·rw [Yb c3] at H;have c3b0:(a0==105)=false:=Zq c3;have c3b1:(a0 !=105)=true:=Yd c3;obtain rfl:=Zn H;go_enter Tryz.func137,Tryz.ntmps137;go_wp2;go_ret;exact ⟨sd_,dn_⟩
mutual
def aEz.j0:Nat->Int->Bool->Int->Int->Int->Option (Int×Int)
 |0,_,_,_,_,_=>none
 |k+1,x1,x13,x812000,x812001,x812002=>if x13=true then (some (0,1)) else (if x1>4096 then (some (0,11)) else ((bOz.f x812000 x812001 x812002).bind fun t813=>(if t813=98 then (aEz.j1 k (wrap64 (x1+4)) x812000 x812001 x812002) else (aEz.j1 k x1 x812000 x812001 x812002))))
def aEz.j1:Nat->Int->Int->Int->Int->Option (Int×Int)
 |0,_,_,_,_=>none
 |k+1,x1,x812000,x812001,x812002=>(bOz.f x812000 x812001 x812002).bind fun t814=>((b8z.f t814).bind fun t815=>(aEz.l0 k x1 t815 x812000 x812001 x812002))
def aEz.l0:Nat->Int->Int->Int->Int->Int->Option (Int×Int)
 |0,_,_,_,_,_=>none
 |k+1,x1,x6,x812000,x812001,x812002=>if (wrap64 (x6*x812001))<x1 then ((bOz.f x812000 x812001 x812002).bind fun t816=>((b8z.f t816).bind fun t817=>(aEz.l0 k x1 (wrap64 (x6+t817)) x812000 x812001 x812002))) else (some (x6,0))
end
def aEz.f (k:Nat) (a0_0:Int) (a0_1:Int) (a0_2:Int) (a1:Int):Option (Int×Int):=(aRz.f a0_0 a0_1 a0_2).bind fun t812=>(if t812=true then (aEz.j0 k a1 (decide (a1<0)) a0_0 a0_1 a0_2) else (aEz.j0 k a1 true a0_0 a0_1 a0_2))
theorem aEz.calls (k : Nat) (a0_0 : Int) (a0_1 : Int) (a0_2 : Int) (a1 : Int) (r1 : Int) (r2 : Int) (w : World) (h : aEz.f k a0_0 a0_1 a0_2 a1 = some (r1, r2)) :
  Calls Tryz.prog 91 #[.agg #[.int .i64 a0_0, .int .i64 a0_1, .int .i64 a0_2], .int .i64 a1] w fun e w'=>e= .returned (.tuple #[.int .i64 r1, .int .i64 r2])/\Below w.heap.size w w':=by
 have hu23:=Tryz.underlying23;have HB:=Za (Zw w.heap.size w);have H:=h;clear h;unfold aEz.f at H;have HC3:=Za H;clear H;go_enter Tryz.func91,Tryz.ntmps91
 go_upto_region 1 with (first|((with_reducible refine aMz (N:=2) rfl ?_);refine bx_ 2 #[.int .i64 a0_0, .int .i64 a0_1, .int .i64 a0_2] 23 ?_;intro gb811 hg w4 hbox hb;have n_:=Zb (hs_ HB hb) (Zb (Za (hbox)) (Zb (ag_ HB gb811) (ag_ HB gb811)));clear HB;obtain ⟨HB,BK811,GW811,GE811⟩:=n_;clear hb hbox hg))
 (try simp only [Act.put,Zg,Zh,Zi])
 go_cut [13] (fun v13 wc=> ∃(kq:Nat) (x13_2:Bool),v13= .bool x13_2/\Aside0 (aEz.j0 kq a1 x13_2 a0_0 a0_1 a0_2=some (r1,r2))/\Aside0 (kq<=k)/\Aside0 (wc.heap[gb811]?=some (.cells #[.int .i64 a0_0, .int .i64 a0_1, .int .i64 a0_2] 23 (0,0)))/\Aside0 (Below w.heap.size w wc))
 case first=>
  have H:=HC3.out;clear HC3;obtain ⟨t812,A5,H⟩:=ob_ H
  (try dsimp only at H)
  by_cases c6:t812=true
  ·subst c6;rw [Ya rfl] at H;have H':=Za H;clear H;obtain ⟨_,_,_,_,_,_⟩:=bc3_ BK811.out
   go_wp2_with (first|((with_reducible refine aaz (f:=48) rfl ?_);refine gl_ (some 8) Tryz.func48 #[.agg #[.int .i64 a0_0, .int .i64 a0_1, .int .i64 a0_2]] ?_;(with_reducible refine (aRz.calls a0_0 a0_1 a0_2 true _ A5.out).mono ?_);rintro e w8 ⟨rfl,hb⟩;refine ⟨_,rfl,?_⟩;have n_:=Zb (bb_ BK811 hb) (hs_ HB hb);clear BK811 HB;obtain ⟨BK811,HB⟩:=n_;(try clear hb)))
   go_meet
   case rel=>exact ⟨_,(decide (a1<0)),sd_,H',⟨by first|omega|exact Zv _⟩,⟨bk_⟩,⟨bl_⟩⟩
  ·replace c6:=Zr c6;subst c6;rw [Yb (show¬(false=true) by decide)] at H;have H':=Za H;clear H;obtain ⟨_,_,_,_,_,_⟩:=bc3_ BK811.out
   go_wp2_with (first|((with_reducible refine aaz (f:=48) rfl ?_);refine gl_ (some 8) Tryz.func48 #[.agg #[.int .i64 a0_0, .int .i64 a0_1, .int .i64 a0_2]] ?_;(with_reducible refine (aRz.calls a0_0 a0_1 a0_2 false _ A5.out).mono ?_);rintro e w10 ⟨rfl,hb⟩;refine ⟨_,rfl,?_⟩;have n_:=Zb (bb_ BK811 hb) (hs_ HB hb);clear BK811 HB;obtain ⟨BK811,HB⟩:=n_;(try clear hb)))
   go_meet
   case rel=>exact ⟨_,(true),sd_,H',⟨by first|omega|exact Zv _⟩,⟨bk_⟩,⟨bl_⟩⟩
 case rest=>
  clear HC3;obtain ⟨kq,x13_2,rfl,HA,HJ2,BK811,HB⟩:=hcut;rcases kq with _|kj2
  ·exact Yf HA.out (by simp [aEz.j0])
  have H:=HA.out;clear HA;simp only [aEz.j0] at H;by_cases c11:x13_2=true
  ·subst c11;rw [Ya rfl] at H;simp only [Zx,Zy] at H;obtain ⟨rfl,rfl⟩:=H;go_wp2;go_ret2;exact ⟨er_,bl_⟩
  ·replace c11:=Zr c11;subst c11;rw [Yb (show¬(false=true) by decide)] at H;by_cases c12:a1>4096
   ·rw [Ya c12] at H;have c12b0:decide (4096<a1)=true:=Zd c12;clear c12;simp only [Zx,Zy] at H;obtain ⟨rfl,rfl⟩:=H;go_wp2;go_ret2;exact ⟨er_,bl_⟩
   ·rw [Yb c12] at H;have c12b0:decide (4096<a1)=false:=Ze c12;clear c12;obtain ⟨t813,A13,H⟩:=ob_ H
    (try dsimp only at H)
    have HC14:=Za H;clear H;obtain ⟨hcz15_0,hfz15_0,hcz15_1,hfz15_1,hcz15_2,hfz15_2⟩:=bc3_ BK811.out
    go_upto_if 18 with (first|((with_reducible refine aaz (f:=136) rfl ?_);refine gl_ (some 17) Tryz.func136 #[.agg #[.int .i64 a0_0, .int .i64 a0_1, .int .i64 a0_2]] ?_;(with_reducible refine (bOz.calls a0_0 a0_1 a0_2 t813 _ A13.out).mono ?_);rintro e w16 ⟨rfl,hb⟩;refine ⟨_,rfl,?_⟩;have n_:=Zb (bb_ BK811 hb) (hs_ HB hb);clear BK811 HB;obtain ⟨BK811,HB⟩:=n_;(try clear hb)))
    (try simp only [Act.put,Zg,Zh,Zi])
    go_cut [1] (fun v1 wc=> ∃(kq:Nat) (x1_13:Int),v1= .int .i64 x1_13/\Aside0 (aEz.j1 kq x1_13 a0_0 a0_1 a0_2=some (r1,r2))/\Aside0 (kq<=kj2)/\Aside0 (wc.heap[gb811]?=some (.cells #[.int .i64 a0_0, .int .i64 a0_1, .int .i64 a0_2] 23 (0,0)))/\Aside0 (Below w.heap.size w wc))
    case first=>
     have H:=HC14.out;clear HC14;by_cases c17:t813=98
     ·rw [Ya c17] at H;have c17b0:(t813==98)=true:=Ye c17;have c17b1:(t813 !=98)=false:=Yc c17;clear c17
      (first|rw [c17b0] |(simp only [i64_w,i32_w];rw [c17b0])|skip)
      have H':=Za H;clear H;go_wp2
      go_meet
      case rel=>exact ⟨_,(wrap64 (a1+4)),sd_,H',⟨by have:=HJ2.out;first|omega|exact Zv _⟩,⟨bk_⟩,⟨bl_⟩⟩
     ·rw [Yb c17] at H;have c17b0:(t813==98)=false:=Zq c17;have c17b1:(t813 !=98)=true:=Yd c17
      (first|rw [c17b0] |(simp only [i64_w,i32_w];rw [c17b0])|skip)
      have H':=Za H;clear H;go_wp2
      go_meet
      case rel=>exact ⟨_,(a1),sd_,H',⟨by have:=HJ2.out;first|omega|exact Zv _⟩,⟨bk_⟩,⟨bl_⟩⟩
    case rest=>
     clear HC14;clear c12b0 hcz15_0 hcz15_1 hcz15_2 hfz15_0 hfz15_1 hfz15_2;obtain ⟨kq,x1_13,rfl,HA,HJ13,BK811,HB⟩:=hcut;rcases kq with _|kj13
     ·exact Yf HA.out (by simp [aEz.j1])
     have H:=HA.out;clear HA;simp only [aEz.j1] at H;obtain ⟨t814,A18,H⟩:=ob_ H
     (try dsimp only at H)
     obtain ⟨t815,A19,H⟩:=ob_ H
     (try dsimp only at H)
     have H':=Za H;clear H;obtain ⟨hcz20_0,hfz20_0,hcz20_1,hfz20_1,hcz20_2,hfz20_2⟩:=bc3_ BK811.out
     go_wp2_with (first|((with_reducible refine aaz (f:=136) rfl ?_);refine gl_ (some 22) Tryz.func136 #[.agg #[.int .i64 a0_0, .int .i64 a0_1, .int .i64 a0_2]] ?_;(with_reducible refine (bOz.calls a0_0 a0_1 a0_2 t814 _ A18.out).mono ?_);rintro e w21 ⟨rfl,hb⟩;refine ⟨_,rfl,?_⟩;have n_:=Zb (bb_ BK811 hb) (hs_ HB hb);clear BK811 HB;obtain ⟨BK811,HB⟩:=n_;(try clear hb))|((with_reducible refine aaz (f:=137) rfl ?_);refine gl_ (some 23) Tryz.func137 #[.int .u8 t814] ?_;(with_reducible refine (b8z.calls t814 t815 _ A19.out).mono ?_);rintro e w' ⟨rfl,⟨nd,rfl⟩⟩;refine ⟨_,rfl,?_⟩))
     go_loopg [6] kj13 (fun kq v6 w'=> ∃(x6_3:Int),v6= .int .i64 x6_3/\Aside0 (aEz.l0 kq x1_13 x6_3 a0_0 a0_1 a0_2=some (r1,r2))/\Aside0 (kq<=kj13)/\Aside0 (w'.heap[gb811]?=some (.cells #[.int .i64 a0_0, .int .i64 a0_1, .int .i64 a0_2] 23 (0,0)))/\Aside0 (Below w.heap.size w w'))
     case atStart=>exact ⟨(t815),sd_,H',⟨Zv _⟩,⟨bk_⟩,⟨bl_⟩⟩
     clear H';clear hcz20_0 hcz20_1 hcz20_2 hfz20_0 hfz20_1 hfz20_2;obtain ⟨x6_3,rfl,HA,HK3,BK811,HB⟩:=hrel;rcases gk with _|k3
     ·exact Yf HA.out (by simp [aEz.l0])
     have H:=HA.out;clear HA;simp only [aEz.l0] at H;by_cases c22:(wrap64 (x6_3*a0_1))<x1_13
     rotate_left
     ·rw [Yb c22] at H;have c22b0:=Ze c22;clear c22;simp only [Zx,Zy] at H;obtain ⟨rfl,rfl⟩:=H;obtain ⟨_,_,_,_,_,_⟩:=bc3_ BK811.out;go_wp2;go_ret2;exact ⟨er_,bl_⟩
     rw [Ya c22] at H;have c22b0:=Zd c22;clear c22;obtain ⟨t816,A23,H⟩:=ob_ H
     (try dsimp only at H)
     obtain ⟨t817,A24,H⟩:=ob_ H
     (try dsimp only at H)
     have H':=Za H;clear H;obtain ⟨_,_,_,_,_,_⟩:=bc3_ BK811.out
     go_wp2_with (first|((with_reducible refine aaz (f:=136) rfl ?_);refine gl_ (some 32) Tryz.func136 #[.agg #[.int .i64 a0_0, .int .i64 a0_1, .int .i64 a0_2]] ?_;(with_reducible refine (bOz.calls a0_0 a0_1 a0_2 t816 _ A23.out).mono ?_);rintro e w26 ⟨rfl,hb⟩;refine ⟨_,rfl,?_⟩;have n_:=Zb (bb_ BK811 hb) (hs_ HB hb);clear BK811 HB;obtain ⟨BK811,HB⟩:=n_;(try clear hb))|((with_reducible refine aaz (f:=137) rfl ?_);refine gl_ (some 33) Tryz.func137 #[.int .u8 t816] ?_;(with_reducible refine (b8z.calls t816 t817 _ A24.out).mono ?_);rintro e w' ⟨rfl,⟨nd,rfl⟩⟩;refine ⟨_,rfl,?_⟩))
     go_roundg k3
     case measure=>have:=HJ2.out;have:=HJ13.out;have:=HK3.out;omega
     case rel=>exact ⟨(wrap64 (x6_3+t817)),sd_,H',⟨by have:=HJ2.out;have:=HJ13.out;have:=HK3.out;omega⟩,⟨bk_⟩,⟨bl_⟩⟩
def bYz.f (k:Nat) (a0:Int):Option (Int):=(aEz.f k a0 1 1 0).bind fun bt1067=>((aNz.f a0).bind fun bt1069=>(if bt1069.2.2.2.1=98 then (some 1) else (some bt1067.1)))
theorem bYz.calls (k : Nat) (a0 : Int) (r : Int) (w : World) (h : bYz.f k a0 = some r) :
  Calls Tryz.prog 74 #[.int .i64 a0] w fun e w'=>e= .returned (.int .i64 r)/\Below w.heap.size w w':=by
 have hu23:=Tryz.underlying23;have hu79:=Tryz.underlying79;have HB:=Za (Zw w.heap.size w);have H:=h;clear h;unfold bYz.f at H;obtain ⟨⟨t1067,t1068⟩,A2,H⟩:=ob_ H
 (try dsimp only at H)
 obtain ⟨⟨t1069,t1070,t1071,t1072,t1073,t1074⟩,A3,H⟩:=ob_ H
 (try dsimp only at H)
 by_cases c4:t1072=98
 ·rw [Ya c4] at H;have c4b0:(t1072==98)=true:=Ye c4;have c4b1:(t1072 !=98)=false:=Yc c4;clear c4;obtain rfl:=Zn H;go_enter Tryz.func74,Tryz.ntmps74
  go_wp2_with (first|((with_reducible refine aaz (f:=91) rfl ?_);refine gl_ (some 10) Tryz.func91 #[.agg #[.int .i64 a0, .int .i64 1, .int .i64 1], .int .i64 0] ?_;(with_reducible refine (aEz.calls k a0 1 1 0 t1067 t1068 _ A2.out).mono ?_);rintro e w5 ⟨rfl,hb⟩;refine ⟨_,rfl,?_⟩;have n0_:=hs_ HB hb;clear HB;have HB:=n0_;clear n0_;(try clear hb))|((with_reducible refine aaz (f:=50) rfl ?_);refine gl_ (some 15) Tryz.func50 #[.int .i64 a0] ?_;(with_reducible refine (aNz.calls a0 t1069 t1070 t1071 t1072 t1073 t1074 _ A3.out).mono ?_);rintro e w6 ⟨rfl,hb⟩;refine ⟨_,rfl,?_⟩;have n0_:=hs_ HB hb;clear HB;have HB:=n0_;clear n0_;(try clear hb))|((with_reducible refine aMz (N:=5) rfl ?_);refine b4z ?hg (N:=5) ?hd (cs:= #[.string (⟨#[]⟩:ByteArray), .int .i64 0, .int .u32 0, .int .u8 0, .int .i64 0]) (t:=79) ?hr ?_;(case hd=>rfl);(case hg=>rfl);(case hr=>first|(go_simp;done)|(go_simp;rfl));intro gb1075 hg w7 hbox hb;have n_:=Zb (hs_ HB hb) (Zb (Za (hbox)) (Zb (ag_ HB gb1075) (ag_ HB gb1075)));clear HB;obtain ⟨HB,BK1075,GW1075,GE1075⟩:=n_;clear hb hbox hg;obtain ⟨_,_,_,_,_,_,_,_,_,_⟩:=bc5_ BK1075.out))
  go_ret;exact ⟨er_,bl_⟩
 ·rw [Yb c4] at H;have c4b0:(t1072==98)=false:=Zq c4;have c4b1:(t1072 !=98)=true:=Yd c4;obtain rfl:=Zn H;go_enter Tryz.func74,Tryz.ntmps74
  go_wp2_with (first|((with_reducible refine aaz (f:=91) rfl ?_);refine gl_ (some 10) Tryz.func91 #[.agg #[.int .i64 a0, .int .i64 1, .int .i64 1], .int .i64 0] ?_;(with_reducible refine (aEz.calls k a0 1 1 0 t1067 t1068 _ A2.out).mono ?_);rintro e w9 ⟨rfl,hb⟩;refine ⟨_,rfl,?_⟩;have n0_:=hs_ HB hb;clear HB;have HB:=n0_;clear n0_;(try clear hb))|((with_reducible refine aaz (f:=50) rfl ?_);refine gl_ (some 15) Tryz.func50 #[.int .i64 a0] ?_;(with_reducible refine (aNz.calls a0 t1069 t1070 t1071 t1072 t1073 t1074 _ A3.out).mono ?_);rintro e w10 ⟨rfl,hb⟩;refine ⟨_,rfl,?_⟩;have n0_:=hs_ HB hb;clear HB;have HB:=n0_;clear n0_;(try clear hb))|((with_reducible refine aMz (N:=5) rfl ?_);refine b4z ?hg (N:=5) ?hd (cs:= #[.string (⟨#[]⟩:ByteArray), .int .i64 0, .int .u32 0, .int .u8 0, .int .i64 0]) (t:=79) ?hr ?_;(case hd=>rfl);(case hg=>rfl);(case hr=>first|(go_simp;done)|(go_simp;rfl));intro gb1075 hg w11 hbox hb;have n_:=Zb (hs_ HB hb) (Zb (Za (hbox)) (Zb (ag_ HB gb1075) (ag_ HB gb1075)));clear HB;obtain ⟨HB,BK1075,GW1075,GE1075⟩:=n_;clear hb hbox hg;obtain ⟨_,_,_,_,_,_,_,_,_,_⟩:=bc5_ BK1075.out))
  go_ret;exact ⟨er_,bl_⟩
def amz.l0:Nat->List (List Int)->Int->List Int->Int->Option (List Int)
 |0,_,_,_,_=>none
 |k+1,x0,x1,x5,x6=>if x6<=6 then ((aRz.f x6 x1 (wrap64 ((x0.length:Int) - x1))).bind fun t1077=>(if t1077=true then (if 0<(x0.length:Int) then (if ((rd_L1 x0 0).length:Int)>0 then ((bYz.f k x6).bind fun t1080=>(if t1080=0 then (none) else (if (((rd_L1 x0 0).length:Int) % t1080)=0 then ((avz.f k x6 x1 (wrap64 ((x0.length:Int) - x1)) x0).bind fun t1081=>(if t1081=true then (if x5.length<17592186044416 then (amz.l0 k x0 x1 (x5++ [x6]) (wrap64 (x6+1))) else (none)) else (amz.l0 k x0 x1 x5 (wrap64 (x6+1))))) else (amz.l0 k x0 x1 x5 (wrap64 (x6+1)))))) else (amz.l0 k x0 x1 x5 (wrap64 (x6+1)))) else (none)) else (amz.l0 k x0 x1 x5 (wrap64 (x6+1))))) else (some x5)
def amz.f (k:Nat) (l0:List (List Int)) (a1:Int):Option (List Int):=amz.l0 k l0 a1 ([] :List Int) 1
def amz.T6:Bool×List (List Nat×List Nat):=(true, [([], []),([0], [0]),([1,1], [1]),([2], [2]),([3,2], [2,3]),([4,2], [2,4]),([5,2], [2,5]),([6,2], [2,6]),([2,7], [2,7]),([8,2], [8]),([9], [9]),([10,9], [9,10]),([11,9], [9,11]),([12,9], [9,12]),([9], [9]),([14,9,9], [9,14]),([13,15,9], [9,13,15]),([16,9], [9,16]),([9,17], [9,17]),([18,15], [18]),([19], [19]),([19], [19]),([20,21,19,19], [19,20,21]),([19,22], [19,22])])
def amz.B6:List Nat:= [0,1,3,7,15,31,63,127,255,511,1023,2047,4095,8191,1023,17407,65535,131071,262143,524287,1048575,1048575,4194303,8388607]
theorem amz.tab6:rtab .any (opsOf Tryz.f40 6)=amz.T6:=by kernel_rfl
theorem amz.bits6:waitsOk amz.T6.2 amz.B6=true:=by kernel_rfl
theorem amz.calls (k : Nat) (A0 : Option Addr) (c0 : Nat) (l0 : List (List Int)) (a1 : Int) (r : List Int) (w : World) (hr0 : Kd.C (Kd.slice 5 (Kd.int .u8)) w A0 l0.length l0) (hc0 : l0.length <= c0) (h : amz.f k l0 a1 = some r) :
  Calls Tryz.prog 40 #[.slice A0 l0.length c0, .int .i64 a1] w fun e w'=> ∃v0_:Value,e= .returned (v0_)/\Kd.R (Kd.int .i64) 3 w' w.heap.size (fun _=>True) v0_ r/\Below w.heap.size w w':=by
 have hu23:=Tryz.underlying23;have HR0:=Za hr0;have HC0:=Za hc0;clear hr0 hc0;have HB:=Za (Zw w.heap.size w);have H:=h;clear h;unfold amz.f at H;have H':=Za H;clear H;go_enter Tryz.func40,Tryz.ntmps40;go_wp2
 go_loopg [5,6] k (fun kq v5 v6 w'=> ∃(x5_1:List Int) (x6_1:Int),v6= .int .i64 x6_1/\Aside0 (amz.l0 kq l0 a1 x5_1 x6_1=some r)/\Aside0 (kq<=k)/\Aside0 (Kd.R (Kd.int .i64) 3 w' w.heap.size (fun _=>True) v5 x5_1)/\Aside0 (Below w.heap.size w w'))
 case atStart=>exact ⟨(([] :List Int)),(1),sd_,H',⟨Zv _⟩,⟨nl_⟩,⟨bl_⟩⟩
 clear H';obtain ⟨x5_1,x6_1,rfl,HA,HK1,HO_5,HB⟩:=hrel;rcases gk with _|k1
 ·exact Yf HA.out (by simp [amz.l0])
 have H:=HA.out;clear HA;simp only [amz.l0] at H;by_cases c3:x6_1<=6
 rotate_left
 ·rw [Yb c3] at H;have c3b0:=Ze c3;clear c3;obtain rfl:=Zn H;go_wp2;go_ret;exact ⟨_,er_,xd_ HO_5.out,bl_⟩
 rw [Ya c3] at H;have c3b0:=Zd c3;clear c3;obtain ⟨t1077,A4,H⟩:=ob_ H
 (try dsimp only at H)
 by_cases c5:t1077=true
 rotate_left
 ·replace c5:=Zr c5;subst c5;rw [Yb (show¬(false=true) by decide)] at H;have H':=Za H;clear H
  try go_wp2_with (first|((with_reducible refine aMz (N:=7) rfl ?_);(try (refine aVz (by rfl) ?_;dsimp only));refine bx_ 7 #[.int .i64 0, .int .i64 0, .int .i64 0] 23 ?_;intro gb1076 hg w40 hbox hb;have n_:=Zb (Za (Kd.bUz (xd_ HO_5.out) hb)) (Zb (hs_ HB hb) (Zb (Za (hbox)) (Zb (ag_ HB gb1076) (ag_ HB gb1076))));clear HO_5 HB;obtain ⟨HO_5,HB,BK1076,GW1076,GE1076⟩:=n_;clear hb hbox hg;obtain ⟨_,_,_,_,_,_⟩:=bc3_ BK1076.out))
  have n0_:Aside0 (Kd.R (Kd.int .i64) 3 (((w40.setCell ⟨gb1076,0,none⟩ (.int .i64 x6_1)).setCell ⟨gb1076,1,none⟩ (.int .i64 a1)).setCell ⟨gb1076,2,none⟩ (.int .i64 (wrap64 ((l0.length:Int) - a1)))) w.heap.size (fun _=>True) u5 x5_1):=⟨by (with_reducible repeat (first|apply Kd.c9z|apply Kd.cIz|apply Kd.b5z));exact Kd.aSz (Kd.R_far (p:=⟨gb1076,2,none⟩) (Kd.R_far (p:=⟨gb1076,1,none⟩) (Kd.R_far (p:=⟨gb1076,0,none⟩) (Kd.cRz HO_5.out BK1076.out (by decide)) (fun _ hk=>hk.2) (.int .i64 x6_1)) (fun _ hk=>hk.2) (.int .i64 a1)) (fun _ hk=>hk.2) (.int .i64 (wrap64 ((l0.length:Int) - a1)))) (fun _ hk=>trivial)⟩;have n1_:Aside0 ((((w40.setCell ⟨gb1076,0,none⟩ (.int .i64 x6_1)).setCell ⟨gb1076,1,none⟩ (.int .i64 a1)).setCell ⟨gb1076,2,none⟩ (.int .i64 (wrap64 ((l0.length:Int) - a1)))).heap[gb1076]?=some (.cells #[.int .i64 x6_1, .int .i64 a1, .int .i64 (wrap64 ((l0.length:Int) - a1))] 23 (0,0))):=⟨kb_⟩;have n2_:Aside0 (Below w.heap.size w (((w40.setCell ⟨gb1076,0,none⟩ (.int .i64 x6_1)).setCell ⟨gb1076,1,none⟩ (.int .i64 a1)).setCell ⟨gb1076,2,none⟩ (.int .i64 (wrap64 ((l0.length:Int) - a1))))):=⟨bl_⟩
  (try clear HO_5)
  (try clear BK1076)
  (try clear HB)
  generalize (((w40.setCell ⟨gb1076,0,none⟩ (.int .i64 x6_1)).setCell ⟨gb1076,1,none⟩ (.int .i64 a1)).setCell ⟨gb1076,2,none⟩ (.int .i64 (wrap64 ((l0.length:Int) - a1))))=w42 at n0_ n1_ n2_|-;have HO_5:=n0_;have BK1076:=n1_;have HB:=n2_;clear n0_ n1_ n2_;have n_:=Zb (Za (Kd.b5z HO_5.out)) (Zb (Za (ccz BK1076.out)) (Za (bTz HB.out)));clear HO_5 BK1076 HB;obtain ⟨HO_5,BK1076,HB⟩:=n_;refine bPz (n:=24) (S:=fun w'=>w'.cell? ⟨gb1076,0,none⟩=some (.int .i64 x6_1)/\w'.cell? ⟨gb1076,1,none⟩=some (.int .i64 a1)/\w'.cell? ⟨gb1076,2,none⟩=some (.int .i64 (wrap64 ((l0.length:Int) - a1)))) (ds:= []) (bA 24 0) kr_ rfl rfl ⟨(abz BK1076.out 0).trans rfl,(abz BK1076.out 1).trans rfl,(abz BK1076.out 2).trans rfl⟩ (fun hHeld=> ?_);refine cdz amz.tab6 amz.bits6 (fun HT_ HW_=> ?_);generalize w42.drew=w43 at HO_5 BK1076 HB hHeld|-;refine tw_ 0 19 1 HT_ HW_ hHeld ?_;refine one_ (i:=1) (N:=some 20) (bA 24 3) rfl rfl (cbz HT_.out kr_) (by decide) (fun K hK=> ?_)
  refine goes_ Tryz.func48 kr_ rfl #[.agg #[.int .i64 x6_1, .int .i64 a1, .int .i64 (wrap64 ((l0.length:Int) - a1))]] (by rfl) rfl rfl ar_ ?_
  with_reducible refine (aRz.calls x6_1 a1 (wrap64 ((l0.length:Int) - a1)) false _ A4.out).mono ?_
  rintro e w44 ⟨rfl,hb⟩;refine ⟨_,rfl,?_⟩;have n_:=Zb (Za (Kd.bUz (xd_ HO_5.out) hb)) (Zb (bb_ BK1076 hb) (hs_ HB hb));clear HO_5 BK1076 HB;obtain ⟨HO_5,BK1076,HB⟩:=n_
  (try clear hb)
  (try clear hb2)
  (try clear hk)
  (try clear hi)
  refine hK.out _ _ ⟨(abz BK1076.out 0).trans rfl,(abz BK1076.out 1).trans rfl,(abz BK1076.out 2).trans rfl⟩ (fun hHeld=> ?_);clear hK K;refine norm_ (a':= ?_) ?_ ?_;rotate_left
  ·show Act.put _ (some 20) _=_;simp only [Act.put,Zg,Zh,Zi,i64_w,i32_w];rfl
  refine pv_ 2 21 7 HT_ ?_;refine pn_ 3 22 15 HT_ ?_;refine pn_ 4 23 31 HT_ ?_;refine pn_ 5 24 63 HT_ ?_;refine pn_ 6 25 127 HT_ ?_;refine pn_ 7 26 255 HT_ ?_;refine pv_ 8 27 511 HT_ ?_;refine pv_ 9 28 1023 HT_ ?_;refine pn_ 10 29 2047 HT_ ?_;refine pn_ 11 30 4095 HT_ ?_;refine pn_ 12 31 8191 HT_ ?_;refine pn_ 13 32 16383 HT_ ?_;refine pn_ 14 33 32767 HT_ ?_;refine pn_ 15 34 65535 HT_ ?_;refine pn_ 16 35 131071 HT_ ?_;refine pn_ 17 36 262143 HT_ ?_;refine pv_ 18 37 524287 HT_ ?_;refine pv_ 19 38 1048575 HT_ ?_;refine pn_ 20 39 2097151 HT_ ?_;refine pn_ 21 40 4194303 HT_ ?_;refine pn_ 22 41 8388607 HT_ ?_;refine pv_ 23 42 16777215 HT_ ?_;refine done_ (cCz HT_.out kr_) ?_
  try go_wp2
  go_roundg k1
  case measure=>have:=HK1.out;omega
  case rel=>exact ⟨(x5_1),(wrap64 (x6_1+1)),sd_,H',⟨by have:=HK1.out;omega⟩,⟨xd_ HO_5.out⟩,⟨bl_⟩⟩
 subst c5;rw [Ya rfl] at H;by_cases c6:0<(l0.length:Int)
 rotate_left
 ·rw [Yb c6] at H;exact Yf H (by simp)
 rw [Ya c6] at H;have c6b0:=Zd c6;have c6b1:decide (0<l0.length)=true:=Zd (by omega);clear c6;by_cases c7:((rd_L1 l0 0).length:Int)>0
 rotate_left
 ·rw [Yb c7] at H;have c7b0:decide (0<((rd_L1 l0 0).length:Int))=false:=Ze c7;have c7b1:decide (0<(rd_L1 l0 0).length)=false:=Ze (by omega);clear c7;have H':=Za H;clear H
  try go_wp2_with (first|((with_reducible refine aMz (N:=7) rfl ?_);(try (refine aVz (by rfl) ?_;dsimp only));refine bx_ 7 #[.int .i64 0, .int .i64 0, .int .i64 0] 23 ?_;intro gb1076 hg w35 hbox hb;have n_:=Zb (Za (Kd.bUz (xd_ HO_5.out) hb)) (Zb (hs_ HB hb) (Zb (Za (hbox)) (Zb (ag_ HB gb1076) (ag_ HB gb1076))));clear HO_5 HB;obtain ⟨HO_5,HB,BK1076,GW1076,GE1076⟩:=n_;clear hb hbox hg;obtain ⟨_,_,_,_,_,_⟩:=bc3_ BK1076.out))
  have n0_:Aside0 (Kd.R (Kd.int .i64) 3 (((w35.setCell ⟨gb1076,0,none⟩ (.int .i64 x6_1)).setCell ⟨gb1076,1,none⟩ (.int .i64 a1)).setCell ⟨gb1076,2,none⟩ (.int .i64 (wrap64 ((l0.length:Int) - a1)))) w.heap.size (fun _=>True) u5 x5_1):=⟨by (with_reducible repeat (first|apply Kd.c9z|apply Kd.cIz|apply Kd.b5z));exact Kd.aSz (Kd.R_far (p:=⟨gb1076,2,none⟩) (Kd.R_far (p:=⟨gb1076,1,none⟩) (Kd.R_far (p:=⟨gb1076,0,none⟩) (Kd.cRz HO_5.out BK1076.out (by decide)) (fun _ hk=>hk.2) (.int .i64 x6_1)) (fun _ hk=>hk.2) (.int .i64 a1)) (fun _ hk=>hk.2) (.int .i64 (wrap64 ((l0.length:Int) - a1)))) (fun _ hk=>trivial)⟩;have n1_:Aside0 ((((w35.setCell ⟨gb1076,0,none⟩ (.int .i64 x6_1)).setCell ⟨gb1076,1,none⟩ (.int .i64 a1)).setCell ⟨gb1076,2,none⟩ (.int .i64 (wrap64 ((l0.length:Int) - a1)))).heap[gb1076]?=some (.cells #[.int .i64 x6_1, .int .i64 a1, .int .i64 (wrap64 ((l0.length:Int) - a1))] 23 (0,0))):=⟨kb_⟩;have n2_:Aside0 (Below w.heap.size w (((w35.setCell ⟨gb1076,0,none⟩ (.int .i64 x6_1)).setCell ⟨gb1076,1,none⟩ (.int .i64 a1)).setCell ⟨gb1076,2,none⟩ (.int .i64 (wrap64 ((l0.length:Int) - a1))))):=⟨bl_⟩
  (try clear HO_5)
  (try clear BK1076)
  (try clear HB)
  generalize (((w35.setCell ⟨gb1076,0,none⟩ (.int .i64 x6_1)).setCell ⟨gb1076,1,none⟩ (.int .i64 a1)).setCell ⟨gb1076,2,none⟩ (.int .i64 (wrap64 ((l0.length:Int) - a1))))=w37 at n0_ n1_ n2_|-;have HO_5:=n0_;have BK1076:=n1_;have HB:=n2_;clear n0_ n1_ n2_;have n_:=Zb (Za (Kd.b5z HO_5.out)) (Zb (Za (ccz BK1076.out)) (Za (bTz HB.out)));clear HO_5 BK1076 HB;obtain ⟨HO_5,BK1076,HB⟩:=n_;have p1078:0<=(0:Int):=(by omega);have q1078:0<(l0.length:Int):=Zc as_;obtain ⟨ad1078,A1078_0,c1078_0,e1078,hx1078_0,hl1078_0,hi1078_0⟩:=at_L1 HR0.out 0 p1078 q1078;have hw1078_0:=hx1078_0
  (try rw [show ((0:Int)).toNat=0 from rfl] at hw1078_0)
  (try rw [show 0*1=0 from rfl] at hw1078_0)
  (try rw [Addr.add_zero'] at hw1078_0)
  cases e1078
  have qi1078:(0<l0.length)=True:=Zz (by omega)
  (try rw [show ((0:Int)).toNat=0 from rfl] at hx1078_0)
  (try rw [Addr.add_zero'] at hx1078_0)
  replace hx1078_0:=(HB.out.cell (Zj w _ hx1078_0)).trans hx1078_0;have HR1078_0:=Za hi1078_0;have HC1078_0:=Za hl1078_0;clear hi1078_0 hl1078_0;replace p1078:=Zz p1078;replace q1078:=Zz q1078;refine bPz (n:=24) (S:=fun w'=>w'.cell? ⟨gb1076,0,none⟩=some (.int .i64 x6_1)/\w'.cell? ⟨gb1076,1,none⟩=some (.int .i64 a1)/\w'.cell? ⟨gb1076,2,none⟩=some (.int .i64 (wrap64 ((l0.length:Int) - a1)))/\w'.cell? ad1078=some (.slice A1078_0 (rd_L1 l0 0).length c1078_0)) (ds:= []) (bA 24 0) kr_ rfl rfl ⟨(abz BK1076.out 0).trans rfl,(abz BK1076.out 1).trans rfl,(abz BK1076.out 2).trans rfl,((HB.out.cell (Zj w _ hw1078_0)).trans hw1078_0)⟩ (fun hHeld=> ?_);refine cdz amz.tab6 amz.bits6 (fun HT_ HW_=> ?_);generalize w37.drew=w38 at HO_5 BK1076 HB HR1078_0 hx1078_0 hHeld|-;refine tw_ 0 19 1 HT_ HW_ hHeld ?_;refine one_ (i:=1) (N:=some 20) (bA 24 3) rfl rfl (cbz HT_.out kr_) (by decide) (fun K hK=> ?_);refine goes_ Tryz.func48 kr_ rfl #[.agg #[.int .i64 x6_1, .int .i64 a1, .int .i64 (wrap64 ((l0.length:Int) - a1))]] (by rfl) rfl rfl ar_ ?_
  with_reducible refine (aRz.calls x6_1 a1 (wrap64 ((l0.length:Int) - a1)) true _ A4.out).mono ?_
  rintro e w39 ⟨rfl,hb⟩;refine ⟨_,rfl,?_⟩;have n_:=Zb (Za (Kd.bUz (xd_ HO_5.out) hb)) (Zb (bb_ BK1076 hb) (hs_ HB hb));clear HO_5 BK1076 HB;obtain ⟨HO_5,BK1076,HB⟩:=n_
  (try clear hb)
  (try clear hb2)
  (try clear hk)
  (try clear hi)
  refine hK.out _ _ ⟨(abz BK1076.out 0).trans rfl,(abz BK1076.out 1).trans rfl,(abz BK1076.out 2).trans rfl,((HB.out.cell (Zj w _ hw1078_0)).trans hw1078_0)⟩ (fun hHeld=> ?_);clear hK K;refine norm_ (a':= ?_) ?_ ?_;rotate_left
  ·show Act.put _ (some 20) _=_;simp only [Act.put,Zg,Zh,Zi,i64_w,i32_w];rfl
  refine pv_ 2 21 7 HT_ ?_;refine pv_ 3 22 15 HT_ ?_;refine pv_ 4 23 31 HT_ ?_;refine tw_ 5 24 63 HT_ HW_ hHeld ?_;refine pv_ 6 25 127 HT_ ?_;refine pv_ 7 26 255 HT_ ?_;refine pv_ 8 27 511 HT_ ?_;refine pv_ 9 28 1023 HT_ ?_;refine pn_ 10 29 2047 HT_ ?_;refine pn_ 11 30 4095 HT_ ?_;refine pn_ 12 31 8191 HT_ ?_;refine pn_ 13 32 16383 HT_ ?_;refine pn_ 14 33 32767 HT_ ?_;refine pn_ 15 34 65535 HT_ ?_;refine pn_ 16 35 131071 HT_ ?_;refine pn_ 17 36 262143 HT_ ?_;refine pv_ 18 37 524287 HT_ ?_;refine pv_ 19 38 1048575 HT_ ?_;refine pn_ 20 39 2097151 HT_ ?_;refine pn_ 21 40 4194303 HT_ ?_;refine pn_ 22 41 8388607 HT_ ?_;refine pv_ 23 42 16777215 HT_ ?_;refine done_ (cCz HT_.out kr_) ?_
  try go_wp2
  go_roundg k1
  case measure=>have:=HK1.out;omega
  case rel=>exact ⟨(x5_1),(wrap64 (x6_1+1)),sd_,H',⟨by have:=HK1.out;omega⟩,⟨xd_ HO_5.out⟩,⟨bl_⟩⟩
 rw [Ya c7] at H;have c7b0:decide (0<((rd_L1 l0 0).length:Int))=true:=Zd c7;have c7b1:decide (0<(rd_L1 l0 0).length)=true:=Zd (by omega);clear c7;obtain ⟨t1080,A8,H⟩:=ob_ H
 (try dsimp only at H)
 by_cases c9:t1080=0
 ·rw [Ya c9] at H;exact Yf H (by simp)
 ·rw [Yb c9] at H;have c9b0:(t1080==0)=false:=Zq c9;have c9b1:(t1080 !=0)=true:=Yd c9;by_cases c10:(((rd_L1 l0 0).length:Int) % t1080)=0
  rotate_left
  ·rw [Yb c10] at H;have c10b0:((((rd_L1 l0 0).length:Int) % t1080)==0)=false:=Zq c10;have c10t0:((Int.tmod ((rd_L1 l0 0).length:Int) t1080)==0)=false:=by (rw [Int.tmod_eq_emod_of_nonneg (Int.natCast_nonneg _)];exact c10b0)
   have c10b1:((((rd_L1 l0 0).length:Int) % t1080) !=0)=true:=Yd c10;have H':=Za H;clear H
   try go_wp2_with (first|((with_reducible refine aMz (N:=7) rfl ?_);(try (refine aVz (by rfl) ?_;dsimp only));refine bx_ 7 #[.int .i64 0, .int .i64 0, .int .i64 0] 23 ?_;intro gb1076 hg w29 hbox hb;have n_:=Zb (Za (Kd.bUz (xd_ HO_5.out) hb)) (Zb (hs_ HB hb) (Zb (Za (hbox)) (Zb (ag_ HB gb1076) (ag_ HB gb1076))));clear HO_5 HB;obtain ⟨HO_5,HB,BK1076,GW1076,GE1076⟩:=n_;clear hb hbox hg;obtain ⟨_,_,_,_,_,_⟩:=bc3_ BK1076.out))
   have n0_:Aside0 (Kd.R (Kd.int .i64) 3 (((w29.setCell ⟨gb1076,0,none⟩ (.int .i64 x6_1)).setCell ⟨gb1076,1,none⟩ (.int .i64 a1)).setCell ⟨gb1076,2,none⟩ (.int .i64 (wrap64 ((l0.length:Int) - a1)))) w.heap.size (fun _=>True) u5 x5_1):=⟨by (with_reducible repeat (first|apply Kd.c9z|apply Kd.cIz|apply Kd.b5z));exact Kd.aSz (Kd.R_far (p:=⟨gb1076,2,none⟩) (Kd.R_far (p:=⟨gb1076,1,none⟩) (Kd.R_far (p:=⟨gb1076,0,none⟩) (Kd.cRz HO_5.out BK1076.out (by decide)) (fun _ hk=>hk.2) (.int .i64 x6_1)) (fun _ hk=>hk.2) (.int .i64 a1)) (fun _ hk=>hk.2) (.int .i64 (wrap64 ((l0.length:Int) - a1)))) (fun _ hk=>trivial)⟩;have n1_:Aside0 ((((w29.setCell ⟨gb1076,0,none⟩ (.int .i64 x6_1)).setCell ⟨gb1076,1,none⟩ (.int .i64 a1)).setCell ⟨gb1076,2,none⟩ (.int .i64 (wrap64 ((l0.length:Int) - a1)))).heap[gb1076]?=some (.cells #[.int .i64 x6_1, .int .i64 a1, .int .i64 (wrap64 ((l0.length:Int) - a1))] 23 (0,0))):=⟨kb_⟩;have n2_:Aside0 (Below w.heap.size w (((w29.setCell ⟨gb1076,0,none⟩ (.int .i64 x6_1)).setCell ⟨gb1076,1,none⟩ (.int .i64 a1)).setCell ⟨gb1076,2,none⟩ (.int .i64 (wrap64 ((l0.length:Int) - a1))))):=⟨bl_⟩
   (try clear HO_5)
   (try clear BK1076)
   (try clear HB)
   generalize (((w29.setCell ⟨gb1076,0,none⟩ (.int .i64 x6_1)).setCell ⟨gb1076,1,none⟩ (.int .i64 a1)).setCell ⟨gb1076,2,none⟩ (.int .i64 (wrap64 ((l0.length:Int) - a1))))=w31 at n0_ n1_ n2_|-;have HO_5:=n0_;have BK1076:=n1_;have HB:=n2_;clear n0_ n1_ n2_;have n_:=Zb (Za (Kd.b5z HO_5.out)) (Zb (Za (ccz BK1076.out)) (Za (bTz HB.out)));clear HO_5 BK1076 HB;obtain ⟨HO_5,BK1076,HB⟩:=n_;have p1078:0<=(0:Int):=(by omega);have q1078:0<(l0.length:Int):=Zc as_;obtain ⟨ad1078,A1078_0,c1078_0,e1078,hx1078_0,hl1078_0,hi1078_0⟩:=at_L1 HR0.out 0 p1078 q1078;have hw1078_0:=hx1078_0
   (try rw [show ((0:Int)).toNat=0 from rfl] at hw1078_0)
   (try rw [show 0*1=0 from rfl] at hw1078_0)
   (try rw [Addr.add_zero'] at hw1078_0)
   cases e1078
   have qi1078:(0<l0.length)=True:=Zz (by omega)
   (try rw [show ((0:Int)).toNat=0 from rfl] at hx1078_0)
   (try rw [Addr.add_zero'] at hx1078_0)
   replace hx1078_0:=(HB.out.cell (Zj w _ hx1078_0)).trans hx1078_0;have HR1078_0:=Za hi1078_0;have HC1078_0:=Za hl1078_0;clear hi1078_0 hl1078_0;replace p1078:=Zz p1078;replace q1078:=Zz q1078;have p1079:0<=(0:Int):=(by omega);have q1079:0<(l0.length:Int):=Zc as_;obtain ⟨ad1079,A1079_0,c1079_0,e1079,hx1079_0,hl1079_0,hi1079_0⟩:=at_L1 HR0.out 0 p1079 q1079;have hw1079_0:=hx1079_0
   (try rw [show ((0:Int)).toNat=0 from rfl] at hw1079_0)
   (try rw [show 0*1=0 from rfl] at hw1079_0)
   (try rw [Addr.add_zero'] at hw1079_0)
   obtain rfl:ad1078=ad1079:=(by injection e1079);have qi1079:(0<l0.length)=True:=Zz (by omega)
   (try rw [show ((0:Int)).toNat=0 from rfl] at hx1079_0)
   (try rw [Addr.add_zero'] at hx1079_0)
   replace hx1079_0:=(HB.out.cell (Zj w _ hx1079_0)).trans hx1079_0;have HR1079_0:=Za hi1079_0;have HC1079_0:=Za hl1079_0;clear hi1079_0 hl1079_0;replace p1079:=Zz p1079;replace q1079:=Zz q1079;have ea_:=Zn (hx1078_0.symm.trans hx1079_0);injection ea_ with ea_ en_ ec_
   subst ea_;subst ec_;clear en_;refine bPz (n:=24) (S:=fun w'=>w'.cell? ⟨gb1076,0,none⟩=some (.int .i64 x6_1)/\w'.cell? ⟨gb1076,1,none⟩=some (.int .i64 a1)/\w'.cell? ⟨gb1076,2,none⟩=some (.int .i64 (wrap64 ((l0.length:Int) - a1)))/\w'.cell? ad1078=some (.slice A1078_0 (rd_L1 l0 0).length c1078_0)/\w'.cell? ad1078=some (.slice A1078_0 (rd_L1 l0 0).length c1078_0)) (ds:= []) (bA 24 0) kr_ rfl rfl ⟨(abz BK1076.out 0).trans rfl,(abz BK1076.out 1).trans rfl,(abz BK1076.out 2).trans rfl,((HB.out.cell (Zj w _ hw1078_0)).trans hw1078_0),((HB.out.cell (Zj w _ hw1079_0)).trans hw1079_0)⟩ (fun hHeld=> ?_);refine cdz amz.tab6 amz.bits6 (fun HT_ HW_=> ?_);generalize w31.drew=w32 at HO_5 BK1076 HB HR1078_0 HR1079_0 hx1078_0 hx1079_0 hHeld|-;refine tw_ 0 19 1 HT_ HW_ hHeld ?_;refine one_ (i:=1) (N:=some 20) (bA 24 3) rfl rfl (cbz HT_.out kr_) (by decide) (fun K hK=> ?_);refine goes_ Tryz.func48 kr_ rfl #[.agg #[.int .i64 x6_1, .int .i64 a1, .int .i64 (wrap64 ((l0.length:Int) - a1))]] (by rfl) rfl rfl ar_ ?_
   with_reducible refine (aRz.calls x6_1 a1 (wrap64 ((l0.length:Int) - a1)) true _ A4.out).mono ?_
   rintro e w33 ⟨rfl,hb⟩;refine ⟨_,rfl,?_⟩;have n_:=Zb (Za (Kd.bUz (xd_ HO_5.out) hb)) (Zb (bb_ BK1076 hb) (hs_ HB hb));clear HO_5 BK1076 HB;obtain ⟨HO_5,BK1076,HB⟩:=n_
   (try clear hb)
   (try clear hb2)
   (try clear hk)
   (try clear hi)
   refine hK.out _ _ ⟨(abz BK1076.out 0).trans rfl,(abz BK1076.out 1).trans rfl,(abz BK1076.out 2).trans rfl,((HB.out.cell (Zj w _ hw1078_0)).trans hw1078_0),((HB.out.cell (Zj w _ hw1079_0)).trans hw1079_0)⟩ (fun hHeld=> ?_);clear hK K;refine norm_ (a':= ?_) ?_ ?_;rotate_left
   ·show Act.put _ (some 20) _=_;simp only [Act.put,Zg,Zh,Zi,i64_w,i32_w];rfl
   refine pv_ 2 21 7 HT_ ?_;refine pv_ 3 22 15 HT_ ?_;refine pv_ 4 23 31 HT_ ?_;refine tw_ 5 24 63 HT_ HW_ hHeld ?_;refine pv_ 6 25 127 HT_ ?_;refine pv_ 7 26 255 HT_ ?_;refine pv_ 8 27 511 HT_ ?_;refine pv_ 9 28 1023 HT_ ?_;refine pv_ 10 29 2047 HT_ ?_;refine pv_ 11 30 4095 HT_ ?_;refine pv_ 14 33 20479 HT_ ?_;refine tw_ 12 31 24575 HT_ HW_ hHeld ?_;refine pv_ 13 32 32767 HT_ ?_;refine one_ (i:=15) (N:=some 34) (bA 24 65535) rfl rfl (cbz HT_.out kr_) (by decide) (fun K hK=> ?_);refine goes_ Tryz.func74 kr_ rfl #[.int .i64 x6_1] (by rfl) rfl rfl ar_ ?_
   with_reducible refine (bYz.calls k1 x6_1 t1080 _ A8.out).mono ?_
   rintro e w34 ⟨rfl,hb⟩;refine ⟨_,rfl,?_⟩;have n_:=Zb (Za (Kd.bUz (xd_ HO_5.out) hb)) (Zb (bb_ BK1076 hb) (hs_ HB hb));clear HO_5 BK1076 HB;obtain ⟨HO_5,BK1076,HB⟩:=n_
   (try clear hb)
   (try clear hb2)
   (try clear hk)
   (try clear hi)
   refine hK.out _ _ ⟨(abz BK1076.out 0).trans rfl,(abz BK1076.out 1).trans rfl,(abz BK1076.out 2).trans rfl,((HB.out.cell (Zj w _ hw1078_0)).trans hw1078_0),((HB.out.cell (Zj w _ hw1079_0)).trans hw1079_0)⟩ (fun hHeld=> ?_);clear hK K;refine norm_ (a':= ?_) ?_ ?_;rotate_left
   ·show Act.put _ (some 34) _=_;simp only [Act.put,Zg,Zh,Zi,i64_w,i32_w];rfl
   refine pv_ 16 35 131071 HT_ ?_;refine pv_ 17 36 262143 HT_ ?_;refine pv_ 18 37 524287 HT_ ?_;refine pv_ 19 38 1048575 HT_ ?_;refine pn_ 20 39 2097151 HT_ ?_;refine pn_ 21 40 4194303 HT_ ?_;refine pn_ 22 41 8388607 HT_ ?_;refine pv_ 23 42 16777215 HT_ ?_;refine done_ (cCz HT_.out kr_) ?_
   try go_wp2
   go_roundg k1
   case measure=>have:=HK1.out;omega
   case rel=>exact ⟨(x5_1),(wrap64 (x6_1+1)),sd_,H',⟨by have:=HK1.out;omega⟩,⟨xd_ HO_5.out⟩,⟨bl_⟩⟩
  rw [Ya c10] at H;have c10b0:((((rd_L1 l0 0).length:Int) % t1080)==0)=true:=Ye c10;have c10t0:((Int.tmod ((rd_L1 l0 0).length:Int) t1080)==0)=true:=by (rw [Int.tmod_eq_emod_of_nonneg (Int.natCast_nonneg _)];exact c10b0)
  have c10b1:((((rd_L1 l0 0).length:Int) % t1080) !=0)=false:=Yc c10;clear c10;obtain ⟨t1081,A11,H⟩:=ob_ H
  (try dsimp only at H)
  by_cases c12:t1081=true
  rotate_left
  ·replace c12:=Zr c12;subst c12;rw [Yb (show¬(false=true) by decide)] at H;have H':=Za H;clear H
   try go_wp2_with (first|((with_reducible refine aMz (N:=7) rfl ?_);(try (refine aVz (by rfl) ?_;dsimp only));refine bx_ 7 #[.int .i64 0, .int .i64 0, .int .i64 0] 23 ?_;intro gb1076 hg w22 hbox hb;have n_:=Zb (Za (Kd.bUz (xd_ HO_5.out) hb)) (Zb (hs_ HB hb) (Zb (Za (hbox)) (Zb (ag_ HB gb1076) (ag_ HB gb1076))));clear HO_5 HB;obtain ⟨HO_5,HB,BK1076,GW1076,GE1076⟩:=n_;clear hb hbox hg;obtain ⟨_,_,_,_,_,_⟩:=bc3_ BK1076.out))
   have n0_:Aside0 (Kd.R (Kd.int .i64) 3 (((w22.setCell ⟨gb1076,0,none⟩ (.int .i64 x6_1)).setCell ⟨gb1076,1,none⟩ (.int .i64 a1)).setCell ⟨gb1076,2,none⟩ (.int .i64 (wrap64 ((l0.length:Int) - a1)))) w.heap.size (fun _=>True) u5 x5_1):=⟨by (with_reducible repeat (first|apply Kd.c9z|apply Kd.cIz|apply Kd.b5z));exact Kd.aSz (Kd.R_far (p:=⟨gb1076,2,none⟩) (Kd.R_far (p:=⟨gb1076,1,none⟩) (Kd.R_far (p:=⟨gb1076,0,none⟩) (Kd.cRz HO_5.out BK1076.out (by decide)) (fun _ hk=>hk.2) (.int .i64 x6_1)) (fun _ hk=>hk.2) (.int .i64 a1)) (fun _ hk=>hk.2) (.int .i64 (wrap64 ((l0.length:Int) - a1)))) (fun _ hk=>trivial)⟩;have n1_:Aside0 ((((w22.setCell ⟨gb1076,0,none⟩ (.int .i64 x6_1)).setCell ⟨gb1076,1,none⟩ (.int .i64 a1)).setCell ⟨gb1076,2,none⟩ (.int .i64 (wrap64 ((l0.length:Int) - a1)))).heap[gb1076]?=some (.cells #[.int .i64 x6_1, .int .i64 a1, .int .i64 (wrap64 ((l0.length:Int) - a1))] 23 (0,0))):=⟨kb_⟩;have n2_:Aside0 (Below w.heap.size w (((w22.setCell ⟨gb1076,0,none⟩ (.int .i64 x6_1)).setCell ⟨gb1076,1,none⟩ (.int .i64 a1)).setCell ⟨gb1076,2,none⟩ (.int .i64 (wrap64 ((l0.length:Int) - a1))))):=⟨bl_⟩
   (try clear HO_5)
   (try clear BK1076)
   (try clear HB)
   generalize (((w22.setCell ⟨gb1076,0,none⟩ (.int .i64 x6_1)).setCell ⟨gb1076,1,none⟩ (.int .i64 a1)).setCell ⟨gb1076,2,none⟩ (.int .i64 (wrap64 ((l0.length:Int) - a1))))=w24 at n0_ n1_ n2_|-;have HO_5:=n0_;have BK1076:=n1_;have HB:=n2_;clear n0_ n1_ n2_;have n_:=Zb (Za (Kd.b5z HO_5.out)) (Zb (Za (ccz BK1076.out)) (Za (bTz HB.out)));clear HO_5 BK1076 HB;obtain ⟨HO_5,BK1076,HB⟩:=n_;have p1078:0<=(0:Int):=(by omega);have q1078:0<(l0.length:Int):=Zc as_;obtain ⟨ad1078,A1078_0,c1078_0,e1078,hx1078_0,hl1078_0,hi1078_0⟩:=at_L1 HR0.out 0 p1078 q1078;have hw1078_0:=hx1078_0
   (try rw [show ((0:Int)).toNat=0 from rfl] at hw1078_0)
   (try rw [show 0*1=0 from rfl] at hw1078_0)
   (try rw [Addr.add_zero'] at hw1078_0)
   cases e1078
   have qi1078:(0<l0.length)=True:=Zz (by omega)
   (try rw [show ((0:Int)).toNat=0 from rfl] at hx1078_0)
   (try rw [Addr.add_zero'] at hx1078_0)
   replace hx1078_0:=(HB.out.cell (Zj w _ hx1078_0)).trans hx1078_0;have HR1078_0:=Za hi1078_0;have HC1078_0:=Za hl1078_0;clear hi1078_0 hl1078_0;replace p1078:=Zz p1078;replace q1078:=Zz q1078;have p1079:0<=(0:Int):=(by omega);have q1079:0<(l0.length:Int):=Zc as_;obtain ⟨ad1079,A1079_0,c1079_0,e1079,hx1079_0,hl1079_0,hi1079_0⟩:=at_L1 HR0.out 0 p1079 q1079;have hw1079_0:=hx1079_0
   (try rw [show ((0:Int)).toNat=0 from rfl] at hw1079_0)
   (try rw [show 0*1=0 from rfl] at hw1079_0)
   (try rw [Addr.add_zero'] at hw1079_0)
   obtain rfl:ad1078=ad1079:=(by injection e1079);have qi1079:(0<l0.length)=True:=Zz (by omega)
   (try rw [show ((0:Int)).toNat=0 from rfl] at hx1079_0)
   (try rw [Addr.add_zero'] at hx1079_0)
   replace hx1079_0:=(HB.out.cell (Zj w _ hx1079_0)).trans hx1079_0;have HR1079_0:=Za hi1079_0;have HC1079_0:=Za hl1079_0;clear hi1079_0 hl1079_0;replace p1079:=Zz p1079;replace q1079:=Zz q1079;have ea_:=Zn (hx1078_0.symm.trans hx1079_0);injection ea_ with ea_ en_ ec_
   subst ea_;subst ec_;clear en_;refine bPz (n:=24) (S:=fun w'=>w'.cell? ⟨gb1076,0,none⟩=some (.int .i64 x6_1)/\w'.cell? ⟨gb1076,1,none⟩=some (.int .i64 a1)/\w'.cell? ⟨gb1076,2,none⟩=some (.int .i64 (wrap64 ((l0.length:Int) - a1)))/\w'.cell? ad1078=some (.slice A1078_0 (rd_L1 l0 0).length c1078_0)/\w'.cell? ad1078=some (.slice A1078_0 (rd_L1 l0 0).length c1078_0)) (ds:= []) (bA 24 0) kr_ rfl rfl ⟨(abz BK1076.out 0).trans rfl,(abz BK1076.out 1).trans rfl,(abz BK1076.out 2).trans rfl,((HB.out.cell (Zj w _ hw1078_0)).trans hw1078_0),((HB.out.cell (Zj w _ hw1079_0)).trans hw1079_0)⟩ (fun hHeld=> ?_);refine cdz amz.tab6 amz.bits6 (fun HT_ HW_=> ?_);generalize w24.drew=w25 at HO_5 BK1076 HB HR1078_0 HR1079_0 hx1078_0 hx1079_0 hHeld|-;refine tw_ 0 19 1 HT_ HW_ hHeld ?_;refine one_ (i:=1) (N:=some 20) (bA 24 3) rfl rfl (cbz HT_.out kr_) (by decide) (fun K hK=> ?_);refine goes_ Tryz.func48 kr_ rfl #[.agg #[.int .i64 x6_1, .int .i64 a1, .int .i64 (wrap64 ((l0.length:Int) - a1))]] (by rfl) rfl rfl ar_ ?_
   with_reducible refine (aRz.calls x6_1 a1 (wrap64 ((l0.length:Int) - a1)) true _ A4.out).mono ?_
   rintro e w26 ⟨rfl,hb⟩;refine ⟨_,rfl,?_⟩;have n_:=Zb (Za (Kd.bUz (xd_ HO_5.out) hb)) (Zb (bb_ BK1076 hb) (hs_ HB hb));clear HO_5 BK1076 HB;obtain ⟨HO_5,BK1076,HB⟩:=n_
   (try clear hb)
   (try clear hb2)
   (try clear hk)
   (try clear hi)
   refine hK.out _ _ ⟨(abz BK1076.out 0).trans rfl,(abz BK1076.out 1).trans rfl,(abz BK1076.out 2).trans rfl,((HB.out.cell (Zj w _ hw1078_0)).trans hw1078_0),((HB.out.cell (Zj w _ hw1079_0)).trans hw1079_0)⟩ (fun hHeld=> ?_);clear hK K;refine norm_ (a':= ?_) ?_ ?_;rotate_left
   ·show Act.put _ (some 20) _=_;simp only [Act.put,Zg,Zh,Zi,i64_w,i32_w];rfl
   refine pv_ 2 21 7 HT_ ?_;refine pv_ 3 22 15 HT_ ?_;refine pv_ 4 23 31 HT_ ?_;refine tw_ 5 24 63 HT_ HW_ hHeld ?_;refine pv_ 6 25 127 HT_ ?_;refine pv_ 7 26 255 HT_ ?_;refine pv_ 8 27 511 HT_ ?_;refine pv_ 9 28 1023 HT_ ?_;refine pv_ 10 29 2047 HT_ ?_;refine pv_ 11 30 4095 HT_ ?_;refine pv_ 14 33 20479 HT_ ?_;refine tw_ 12 31 24575 HT_ HW_ hHeld ?_;refine pv_ 13 32 32767 HT_ ?_;refine one_ (i:=15) (N:=some 34) (bA 24 65535) rfl rfl (cbz HT_.out kr_) (by decide) (fun K hK=> ?_);refine goes_ Tryz.func74 kr_ rfl #[.int .i64 x6_1] (by rfl) rfl rfl ar_ ?_
   with_reducible refine (bYz.calls k1 x6_1 t1080 _ A8.out).mono ?_
   rintro e w27 ⟨rfl,hb⟩;refine ⟨_,rfl,?_⟩;have n_:=Zb (Za (Kd.bUz (xd_ HO_5.out) hb)) (Zb (bb_ BK1076 hb) (hs_ HB hb));clear HO_5 BK1076 HB;obtain ⟨HO_5,BK1076,HB⟩:=n_
   (try clear hb)
   (try clear hb2)
   (try clear hk)
   (try clear hi)
   refine hK.out _ _ ⟨(abz BK1076.out 0).trans rfl,(abz BK1076.out 1).trans rfl,(abz BK1076.out 2).trans rfl,((HB.out.cell (Zj w _ hw1078_0)).trans hw1078_0),((HB.out.cell (Zj w _ hw1079_0)).trans hw1079_0)⟩ (fun hHeld=> ?_);clear hK K;refine norm_ (a':= ?_) ?_ ?_;rotate_left
   ·show Act.put _ (some 34) _=_;simp only [Act.put,Zg,Zh,Zi,i64_w,i32_w];rfl
   refine pv_ 16 35 131071 HT_ ?_;refine pv_ 17 36 262143 HT_ ?_;refine pv_ 18 37 524287 HT_ ?_;refine pv_ 19 38 1048575 HT_ ?_;refine pv_ 21 40 3145727 HT_ ?_;refine tw_ 20 39 4194303 HT_ HW_ hHeld ?_;refine one_ (i:=22) (N:=some 41) (bA 24 8388607) rfl rfl (cbz HT_.out kr_) (by decide) (fun K hK=> ?_);refine goes_ Tryz.func23 kr_ rfl #[.agg #[.int .i64 x6_1, .int .i64 a1, .int .i64 (wrap64 ((l0.length:Int) - a1))], .slice (some ad1078) l0.length c0] (by rfl) rfl rfl ar_ ?_
   with_reducible refine (avz.calls k1 x6_1 a1 (wrap64 ((l0.length:Int) - a1)) _ _ l0 false _ ?side1 ?side2 A11.out).mono ?_
   (case side1=>repeat (first|exact (Kd.azz HR0.out HB.out)|(with_reducible refine Kd.b7z ?_ _)|(with_reducible refine Kd.bDz ?_ _)|(with_reducible refine Kd.coz ?_)))
   (case side2=>exact HC0.out)
   rintro e w28 ⟨rfl,hb⟩;refine ⟨_,rfl,?_⟩;have n_:=Zb (Za (Kd.bUz (xd_ HO_5.out) hb)) (Zb (bb_ BK1076 hb) (hs_ HB hb));clear HO_5 BK1076 HB;obtain ⟨HO_5,BK1076,HB⟩:=n_
   (try clear hb)
   (try clear hb2)
   (try clear hk)
   (try clear hi)
   refine hK.out _ _ ⟨(abz BK1076.out 0).trans rfl,(abz BK1076.out 1).trans rfl,(abz BK1076.out 2).trans rfl,((HB.out.cell (Zj w _ hw1078_0)).trans hw1078_0),((HB.out.cell (Zj w _ hw1079_0)).trans hw1079_0)⟩ (fun hHeld=> ?_);clear hK K;refine norm_ (a':= ?_) ?_ ?_;rotate_left
   ·show Act.put _ (some 41) _=_;simp only [Act.put,Zg,Zh,Zi,i64_w,i32_w];rfl
   refine pv_ 23 42 16777215 HT_ ?_;refine done_ (cCz HT_.out kr_) ?_
   try go_wp2
   go_roundg k1
   case measure=>have:=HK1.out;omega
   case rel=>exact ⟨(x5_1),(wrap64 (x6_1+1)),sd_,H',⟨by have:=HK1.out;omega⟩,⟨xd_ HO_5.out⟩,⟨bl_⟩⟩
  subst c12;rw [Ya rfl] at H;by_cases c13:x5_1.length<17592186044416
  rotate_left
  ·rw [Yb c13] at H;exact Yf H (by simp)
  rw [Ya c13] at H;have LMc13:=Za c13;clear c13;obtain ⟨y1082,hy1082⟩: ∃y_:List Int,y_=(x5_1++ [x6_1]):=⟨_,rfl⟩
  first|rw [Zl, <-hy1082] at H|rw [<-hy1082] at H
  (try dsimp only at H)
  have Ny1082:=Za hy1082;clear hy1082;have H':=Za H;clear H
  try go_wp2_with (first|((with_reducible refine aMz (N:=7) rfl ?_);(try (refine aVz (by rfl) ?_;dsimp only));refine bx_ 7 #[.int .i64 0, .int .i64 0, .int .i64 0] 23 ?_;intro gb1076 hg w14 hbox hb;have n_:=Zb (Za (Kd.bUz (xd_ HO_5.out) hb)) (Zb (hs_ HB hb) (Zb (Za (hbox)) (Zb (ag_ HB gb1076) (ag_ HB gb1076))));clear HO_5 HB;obtain ⟨HO_5,HB,BK1076,GW1076,GE1076⟩:=n_;clear hb hbox hg;obtain ⟨_,_,_,_,_,_⟩:=bc3_ BK1076.out))
  have n0_:Aside0 (Kd.R (Kd.int .i64) 3 (((w14.setCell ⟨gb1076,0,none⟩ (.int .i64 x6_1)).setCell ⟨gb1076,1,none⟩ (.int .i64 a1)).setCell ⟨gb1076,2,none⟩ (.int .i64 (wrap64 ((l0.length:Int) - a1)))) w.heap.size (fun _=>True) u5 x5_1):=⟨by (with_reducible repeat (first|apply Kd.c9z|apply Kd.cIz|apply Kd.b5z));exact Kd.aSz (Kd.R_far (p:=⟨gb1076,2,none⟩) (Kd.R_far (p:=⟨gb1076,1,none⟩) (Kd.R_far (p:=⟨gb1076,0,none⟩) (Kd.cRz HO_5.out BK1076.out (by decide)) (fun _ hk=>hk.2) (.int .i64 x6_1)) (fun _ hk=>hk.2) (.int .i64 a1)) (fun _ hk=>hk.2) (.int .i64 (wrap64 ((l0.length:Int) - a1)))) (fun _ hk=>trivial)⟩;have n1_:Aside0 ((((w14.setCell ⟨gb1076,0,none⟩ (.int .i64 x6_1)).setCell ⟨gb1076,1,none⟩ (.int .i64 a1)).setCell ⟨gb1076,2,none⟩ (.int .i64 (wrap64 ((l0.length:Int) - a1)))).heap[gb1076]?=some (.cells #[.int .i64 x6_1, .int .i64 a1, .int .i64 (wrap64 ((l0.length:Int) - a1))] 23 (0,0))):=⟨kb_⟩;have n2_:Aside0 (Below w.heap.size w (((w14.setCell ⟨gb1076,0,none⟩ (.int .i64 x6_1)).setCell ⟨gb1076,1,none⟩ (.int .i64 a1)).setCell ⟨gb1076,2,none⟩ (.int .i64 (wrap64 ((l0.length:Int) - a1))))):=⟨bl_⟩
  (try clear HO_5)
  (try clear BK1076)
  (try clear HB)
  generalize (((w14.setCell ⟨gb1076,0,none⟩ (.int .i64 x6_1)).setCell ⟨gb1076,1,none⟩ (.int .i64 a1)).setCell ⟨gb1076,2,none⟩ (.int .i64 (wrap64 ((l0.length:Int) - a1))))=w16 at n0_ n1_ n2_|-;have HO_5:=n0_;have BK1076:=n1_;have HB:=n2_;clear n0_ n1_ n2_;have n_:=Zb (Za (Kd.b5z HO_5.out)) (Zb (Za (ccz BK1076.out)) (Za (bTz HB.out)));clear HO_5 BK1076 HB;obtain ⟨HO_5,BK1076,HB⟩:=n_;have p1078:0<=(0:Int):=(by omega);have q1078:0<(l0.length:Int):=Zc as_;obtain ⟨ad1078,A1078_0,c1078_0,e1078,hx1078_0,hl1078_0,hi1078_0⟩:=at_L1 HR0.out 0 p1078 q1078;have hw1078_0:=hx1078_0
  (try rw [show ((0:Int)).toNat=0 from rfl] at hw1078_0)
  (try rw [show 0*1=0 from rfl] at hw1078_0)
  (try rw [Addr.add_zero'] at hw1078_0)
  cases e1078
  have qi1078:(0<l0.length)=True:=Zz (by omega)
  (try rw [show ((0:Int)).toNat=0 from rfl] at hx1078_0)
  (try rw [Addr.add_zero'] at hx1078_0)
  replace hx1078_0:=(HB.out.cell (Zj w _ hx1078_0)).trans hx1078_0;have HR1078_0:=Za hi1078_0;have HC1078_0:=Za hl1078_0;clear hi1078_0 hl1078_0;replace p1078:=Zz p1078;replace q1078:=Zz q1078;have p1079:0<=(0:Int):=(by omega);have q1079:0<(l0.length:Int):=Zc as_;obtain ⟨ad1079,A1079_0,c1079_0,e1079,hx1079_0,hl1079_0,hi1079_0⟩:=at_L1 HR0.out 0 p1079 q1079;have hw1079_0:=hx1079_0
  (try rw [show ((0:Int)).toNat=0 from rfl] at hw1079_0)
  (try rw [show 0*1=0 from rfl] at hw1079_0)
  (try rw [Addr.add_zero'] at hw1079_0)
  obtain rfl:ad1078=ad1079:=(by injection e1079);have qi1079:(0<l0.length)=True:=Zz (by omega)
  (try rw [show ((0:Int)).toNat=0 from rfl] at hx1079_0)
  (try rw [Addr.add_zero'] at hx1079_0)
  replace hx1079_0:=(HB.out.cell (Zj w _ hx1079_0)).trans hx1079_0;have HR1079_0:=Za hi1079_0;have HC1079_0:=Za hl1079_0;clear hi1079_0 hl1079_0;replace p1079:=Zz p1079;replace q1079:=Zz q1079;have ea_:=Zn (hx1078_0.symm.trans hx1079_0);injection ea_ with ea_ en_ ec_
  subst ea_;subst ec_;clear en_;refine bPz (n:=24) (S:=fun w'=>w'.cell? ⟨gb1076,0,none⟩=some (.int .i64 x6_1)/\w'.cell? ⟨gb1076,1,none⟩=some (.int .i64 a1)/\w'.cell? ⟨gb1076,2,none⟩=some (.int .i64 (wrap64 ((l0.length:Int) - a1)))/\w'.cell? ad1078=some (.slice A1078_0 (rd_L1 l0 0).length c1078_0)/\w'.cell? ad1078=some (.slice A1078_0 (rd_L1 l0 0).length c1078_0)) (ds:= []) (bA 24 0) kr_ rfl rfl ⟨(abz BK1076.out 0).trans rfl,(abz BK1076.out 1).trans rfl,(abz BK1076.out 2).trans rfl,((HB.out.cell (Zj w _ hw1078_0)).trans hw1078_0),((HB.out.cell (Zj w _ hw1079_0)).trans hw1079_0)⟩ (fun hHeld=> ?_);refine cdz amz.tab6 amz.bits6 (fun HT_ HW_=> ?_);generalize w16.drew=w17 at HO_5 BK1076 HB HR1078_0 HR1079_0 hx1078_0 hx1079_0 hHeld|-;refine tw_ 0 19 1 HT_ HW_ hHeld ?_;refine one_ (i:=1) (N:=some 20) (bA 24 3) rfl rfl (cbz HT_.out kr_) (by decide) (fun K hK=> ?_);refine goes_ Tryz.func48 kr_ rfl #[.agg #[.int .i64 x6_1, .int .i64 a1, .int .i64 (wrap64 ((l0.length:Int) - a1))]] (by rfl) rfl rfl ar_ ?_
  with_reducible refine (aRz.calls x6_1 a1 (wrap64 ((l0.length:Int) - a1)) true _ A4.out).mono ?_
  rintro e w18 ⟨rfl,hb⟩;refine ⟨_,rfl,?_⟩;have n_:=Zb (Za (Kd.bUz (xd_ HO_5.out) hb)) (Zb (bb_ BK1076 hb) (hs_ HB hb));clear HO_5 BK1076 HB;obtain ⟨HO_5,BK1076,HB⟩:=n_
  (try clear hb)
  (try clear hb2)
  (try clear hk)
  (try clear hi)
  refine hK.out _ _ ⟨(abz BK1076.out 0).trans rfl,(abz BK1076.out 1).trans rfl,(abz BK1076.out 2).trans rfl,((HB.out.cell (Zj w _ hw1078_0)).trans hw1078_0),((HB.out.cell (Zj w _ hw1079_0)).trans hw1079_0)⟩ (fun hHeld=> ?_);clear hK K;refine norm_ (a':= ?_) ?_ ?_;rotate_left
  ·show Act.put _ (some 20) _=_;simp only [Act.put,Zg,Zh,Zi,i64_w,i32_w];rfl
  refine pv_ 2 21 7 HT_ ?_;refine pv_ 3 22 15 HT_ ?_;refine pv_ 4 23 31 HT_ ?_;refine tw_ 5 24 63 HT_ HW_ hHeld ?_;refine pv_ 6 25 127 HT_ ?_;refine pv_ 7 26 255 HT_ ?_;refine pv_ 8 27 511 HT_ ?_;refine pv_ 9 28 1023 HT_ ?_;refine pv_ 10 29 2047 HT_ ?_;refine pv_ 11 30 4095 HT_ ?_;refine pv_ 14 33 20479 HT_ ?_;refine tw_ 12 31 24575 HT_ HW_ hHeld ?_;refine pv_ 13 32 32767 HT_ ?_;refine one_ (i:=15) (N:=some 34) (bA 24 65535) rfl rfl (cbz HT_.out kr_) (by decide) (fun K hK=> ?_);refine goes_ Tryz.func74 kr_ rfl #[.int .i64 x6_1] (by rfl) rfl rfl ar_ ?_
  with_reducible refine (bYz.calls k1 x6_1 t1080 _ A8.out).mono ?_
  rintro e w19 ⟨rfl,hb⟩;refine ⟨_,rfl,?_⟩;have n_:=Zb (Za (Kd.bUz (xd_ HO_5.out) hb)) (Zb (bb_ BK1076 hb) (hs_ HB hb));clear HO_5 BK1076 HB;obtain ⟨HO_5,BK1076,HB⟩:=n_
  (try clear hb)
  (try clear hb2)
  (try clear hk)
  (try clear hi)
  refine hK.out _ _ ⟨(abz BK1076.out 0).trans rfl,(abz BK1076.out 1).trans rfl,(abz BK1076.out 2).trans rfl,((HB.out.cell (Zj w _ hw1078_0)).trans hw1078_0),((HB.out.cell (Zj w _ hw1079_0)).trans hw1079_0)⟩ (fun hHeld=> ?_);clear hK K;refine norm_ (a':= ?_) ?_ ?_;rotate_left
  ·show Act.put _ (some 34) _=_;simp only [Act.put,Zg,Zh,Zi,i64_w,i32_w];rfl
  refine pv_ 16 35 131071 HT_ ?_;refine pv_ 17 36 262143 HT_ ?_;refine pv_ 18 37 524287 HT_ ?_;refine pv_ 19 38 1048575 HT_ ?_;refine pv_ 21 40 3145727 HT_ ?_;refine tw_ 20 39 4194303 HT_ HW_ hHeld ?_;refine one_ (i:=22) (N:=some 41) (bA 24 8388607) rfl rfl (cbz HT_.out kr_) (by decide) (fun K hK=> ?_);refine goes_ Tryz.func23 kr_ rfl #[.agg #[.int .i64 x6_1, .int .i64 a1, .int .i64 (wrap64 ((l0.length:Int) - a1))], .slice (some ad1078) l0.length c0] (by rfl) rfl rfl ar_ ?_
  with_reducible refine (avz.calls k1 x6_1 a1 (wrap64 ((l0.length:Int) - a1)) _ _ l0 true _ ?side1 ?side2 A11.out).mono ?_
  (case side1=>repeat (first|exact (Kd.azz HR0.out HB.out)|(with_reducible refine Kd.b7z ?_ _)|(with_reducible refine Kd.bDz ?_ _)|(with_reducible refine Kd.coz ?_)))
  (case side2=>exact HC0.out)
  rintro e w20 ⟨rfl,hb⟩;refine ⟨_,rfl,?_⟩;have n_:=Zb (Za (Kd.bUz (xd_ HO_5.out) hb)) (Zb (bb_ BK1076 hb) (hs_ HB hb));clear HO_5 BK1076 HB;obtain ⟨HO_5,BK1076,HB⟩:=n_
  (try clear hb)
  (try clear hb2)
  (try clear hk)
  (try clear hi)
  refine hK.out _ _ ⟨(abz BK1076.out 0).trans rfl,(abz BK1076.out 1).trans rfl,(abz BK1076.out 2).trans rfl,((HB.out.cell (Zj w _ hw1078_0)).trans hw1078_0),((HB.out.cell (Zj w _ hw1079_0)).trans hw1079_0)⟩ (fun hHeld=> ?_);clear hK K;refine norm_ (a':= ?_) ?_ ?_;rotate_left
  ·show Act.put _ (some 41) _=_;simp only [Act.put,Zg,Zh,Zi,i64_w,i32_w];rfl
  refine pv_ 23 42 16777215 HT_ ?_;refine done_ (cCz HT_.out kr_) ?_
  try go_wp2_with (first|((with_reducible refine aoz (b:= .append) (xs:= #[.tmp 43, .tmp 45]) rfl ?_);(try (refine aVz (by rfl) ?_;dsimp only));at_builtin;refine Kd.bmz (Kd.int .i64) (w0:=w) w.heap.size rfl (.tmp 43) (.tmp 45) 57 3 (.int .i64 0) 8 rfl Tryz.underlying57 info3 rfl (by decide) (by omega) u5 x5_1 x6_1 [.int .i64 x6_1] (fun _=>True) (fun _=>False) rfl rfl ?aP (fun _ hk=>hk.elim) ?aF ?aO ?aB ?aS ?aL ?_;(case aP=>exact rfl);(case aB=>exact bl_);(case aF=>exact (fun _ _=>trivial));(case aO=>exact (xd_ HO_5.out));(case aS=>exact (adz bl_));(case aL=>have:=LMc13.out;omega);intro v1083 w21 ho hb hg hat;rw [<-Ny1082.out] at ho;have n_:=Zb (Za (ewz (g:=gb1076) (o:= .cells #[.int .i64 x6_1, .int .i64 a1, .int .i64 (wrap64 ((l0.length:Int) - a1))] 23 (0,0)) bk_ hg (Kd.R_ne HO_5.out BK1076.out (by decide)))) (Zb (Za (hb)) (Za (ho)));clear BK1076 HB HO_5;obtain ⟨BK1076,HB,HO1084⟩:=n_;clear ho hb hg hat))
  go_roundg k1
  case measure=>have:=HK1.out;omega
  case rel=>exact ⟨(y1082),(wrap64 (x6_1+1)),sd_,H',⟨by have:=HK1.out;omega⟩,⟨xd_ HO1084.out⟩,⟨bl_⟩⟩
end Go.Proofs.Xc
end
