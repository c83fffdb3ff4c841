-- Joined texts of this work (wip/tools/bundle.py).
import Derived.Test.YtpdakdcmahlghaaGreatBTrialTells10
set_option maxHeartbeats 8000000
set_option maxRecDepth 100000
set_option linter.unusedVariables false
set_option linter.unusedSimpArgs false
section
namespace Go.Proofs.Xc
open Go.RowKit Go.Proofs.Pw Go.Proofs.Pl Go.Proofs.Pm
attribute [local go_sem] bcz bdz bpz bqz a4z a5z bez bfz
def bEz.f (l0_0:List (List Int)) (a0_1:Int) (a1:Int):Option (Int×Int×Int):=some (a1,a0_1,wrap64 ((l0_0.length:Int) - a0_1))
theorem bEz.calls (A0_0 : Option Addr) (c0_0 : Nat) (l0_0 : List (List Int)) (a0_1 : Int) (a1 : Int) (r1 : Int) (r2 : Int) (r3 : Int) (w : World) (hr0_0 : Kd.C (Kd.slice 5 (Kd.int .u8)) w A0_0 l0_0.length l0_0) (hc0_0 : l0_0.length <= c0_0) (h : bEz.f l0_0 a0_1 a1 = some (r1, r2, r3)) :
  Calls Tryz.prog 109 #[.agg #[.slice A0_0 l0_0.length c0_0, .int .i64 a0_1], .int .i64 a1] w fun e w'=>e= .returned (.agg #[.int .i64 r1, .int .i64 r2, .int .i64 r3])/\Below w.heap.size w w':=by
 have hu106:=Tryz.underlying106;have hu23:=Tryz.underlying23;have HR0_0:=Za hr0_0;have HC0_0:=Za hc0_0;clear hr0_0 hc0_0;have HB:=Za (Zw w.heap.size w);have H:=h;clear h;unfold bEz.f at H;simp only [Zx,Zy] at H;obtain ⟨rfl,rfl,rfl⟩:=H;go_enter Tryz.func109,Tryz.ntmps109
 go_wp2_with (first|((with_reducible refine aMz (N:=2) rfl ?_);refine bx_ 2 #[.slice A0_0 l0_0.length c0_0, .int .i64 a0_1] 106 ?_;intro gb137 hg w3 hbox hb;have n_:=Zb (hs_ HB hb) (Zb (Za (hbox)) (Zb (ag_ HB gb137) (ag_ HB gb137)));clear HB;obtain ⟨HB,BK137,GW137,GE137⟩:=n_;clear hb hbox hg)|((with_reducible refine aMz (N:=4) rfl ?_);refine bx_ 4 #[.int .i64 0, .int .i64 0, .int .i64 0] 23 ?_;intro gb138 hg w4 hbox hb;have n_:=Zb (bb_ BK137 hb) (Zb (hs_ HB hb) (Zb (Za (hbox)) (Zb (ag_ HB gb138) (Zb (ag_ HB gb138) (Zb (n1_ BK137 gb138) (n2_ BK137 gb138))))));clear BK137 HB;obtain ⟨BK137,HB,BK138,GW138,GE138,NB137_138,NB138_137⟩:=n_;clear hb hbox hg;have hnb5:=NB137_138.out;have hnc5:=NB138_137.out;obtain ⟨_,_,_,_⟩:=bc2_ BK137.out;obtain ⟨_,_,_,_,_,_⟩:=bc3_ BK138.out))
 refine bodyPost_ret (results_cell_row rfl _ _ gb138 23 #[.int .i64 a1, .int .i64 a0_1, .int .i64 (wrap64 ((l0_0.length:Int) - a0_1))] (0,0) _ rfl kb_ Tryz.underlying23 rfl kr_) rfl ?_;exact ⟨er_,bl_⟩
def bHz.f (k:Nat) (l0_0:List (List Int)) (a0_1:Int) (a1:Int):Option (Bool):=if 0<(l0_0.length:Int) then ((a6z.f k a1 8 1 0).bind fun bt141=>(if ((rd_L1 l0_0 0).length:Int)>0 then (if bt141.1=0 then (none) else (some ((((rd_L1 l0_0 0).length:Int) % bt141.1)==0))) else (some false))) else (none)
theorem bHz.calls (k : Nat) (A0_0 : Option Addr) (c0_0 : Nat) (l0_0 : List (List Int)) (a0_1 : Int) (a1 : Int) (r : Bool) (w : World) (hr0_0 : Kd.C (Kd.slice 5 (Kd.int .u8)) w A0_0 l0_0.length l0_0) (hc0_0 : l0_0.length <= c0_0) (h : bHz.f k l0_0 a0_1 a1 = some r) :
  Calls Tryz.prog 110 #[.agg #[.slice A0_0 l0_0.length c0_0, .int .i64 a0_1], .int .i64 a1] w fun e w'=>e= .returned (.bool r)/\Below w.heap.size w w':=by
 have hu106:=Tryz.underlying106;have hu23:=Tryz.underlying23;have HR0_0:=Za hr0_0;have HC0_0:=Za hc0_0;clear hr0_0 hc0_0;have HB:=Za (Zw w.heap.size w);have H:=h;clear h;unfold bHz.f at H;by_cases c3:0<(l0_0.length:Int)
 rotate_left
 ·rw [Yb c3] at H;exact Yf H (by simp)
 rw [Ya c3] at H;have c3b0:=Zd c3;have c3b1:decide (0<l0_0.length)=true:=Zd (by omega);clear c3;obtain ⟨⟨t141,t142⟩,A4,H⟩:=ob_ H
 (try dsimp only at H)
 by_cases c5:((rd_L1 l0_0 0).length:Int)>0
 rotate_left
 ·rw [Yb c5] at H;have c5b0:decide (0<((rd_L1 l0_0 0).length:Int))=false:=Ze c5;have c5b1:decide (0<(rd_L1 l0_0 0).length)=false:=Ze (by omega);clear c5;obtain rfl:=Zn H;go_enter Tryz.func110,Tryz.ntmps110
  go_wp2_with (first|((with_reducible refine aMz (N:=2) rfl ?_);refine bx_ 2 #[.slice A0_0 l0_0.length c0_0, .int .i64 a0_1] 106 ?_;intro gb139 hg w10 hbox hb;have n_:=Zb (hs_ HB hb) (Zb (Za (hbox)) (Zb (ag_ HB gb139) (ag_ HB gb139)));clear HB;obtain ⟨HB,BK139,GW139,GE139⟩:=n_;clear hb hbox hg;obtain ⟨_,_,_,_⟩:=bc2_ BK139.out;have p140:0<=(0:Int):=(by omega);have q140:0<(l0_0.length:Int):=Zc as_;obtain ⟨_,A140_0,c140_0,e140,hx140_0,hl140_0,hi140_0⟩:=at_L1 HR0_0.out 0 p140 q140;cases e140;have qi140:(0<l0_0.length)=True:=Zz (by omega);(try rw [show ((0:Int)).toNat=0 from rfl] at hx140_0);(try rw [Addr.add_zero'] at hx140_0);replace hx140_0:=(HB.out.cell (Zj w _ hx140_0)).trans hx140_0;have HR140_0:=Za hi140_0;have HC140_0:=Za hl140_0;clear hi140_0 hl140_0;replace p140:=Zz p140;replace q140:=Zz q140)|((with_reducible refine aaz (f:=88) rfl ?_);refine gl_ (some 16) Tryz.func88 #[.agg #[.int .i64 a1, .int .i64 8, .int .i64 1], .int .i64 0] ?_;(with_reducible refine (a6z.calls k a1 8 1 0 t141 t142 _ A4.out).mono ?_);rintro e w12 ⟨rfl,hb⟩;refine ⟨_,rfl,?_⟩;have n_:=Zb (bb_ BK139 hb) (hs_ HB hb);clear BK139 HB;obtain ⟨BK139,HB⟩:=n_;(try clear hb)))
  go_ret;exact ⟨er_,bl_⟩
 rw [Ya c5] at H;have c5b0:decide (0<((rd_L1 l0_0 0).length:Int))=true:=Zd c5;have c5b1:decide (0<(rd_L1 l0_0 0).length)=true:=Zd (by omega);clear c5;by_cases c6:t141=0
 ·rw [Ya c6] at H;exact Yf H (by simp)
 ·rw [Yb c6] at H;have c6b0:(t141==0)=false:=Zq c6;have c6b1:(t141 !=0)=true:=Yd c6;obtain rfl:=Zn H;go_enter Tryz.func110,Tryz.ntmps110
  go_wp2_with (first|((with_reducible refine aMz (N:=2) rfl ?_);refine bx_ 2 #[.slice A0_0 l0_0.length c0_0, .int .i64 a0_1] 106 ?_;intro gb139 hg w7 hbox hb;have n_:=Zb (hs_ HB hb) (Zb (Za (hbox)) (Zb (ag_ HB gb139) (ag_ HB gb139)));clear HB;obtain ⟨HB,BK139,GW139,GE139⟩:=n_;clear hb hbox hg;obtain ⟨_,_,_,_⟩:=bc2_ BK139.out;have p140:0<=(0:Int):=(by omega);have q140:0<(l0_0.length:Int):=Zc as_;obtain ⟨_,A140_0,c140_0,e140,hx140_0,hl140_0,hi140_0⟩:=at_L1 HR0_0.out 0 p140 q140;cases e140;have qi140:(0<l0_0.length)=True:=Zz (by omega);(try rw [show ((0:Int)).toNat=0 from rfl] at hx140_0);(try rw [Addr.add_zero'] at hx140_0);replace hx140_0:=(HB.out.cell (Zj w _ hx140_0)).trans hx140_0;have HR140_0:=Za hi140_0;have HC140_0:=Za hl140_0;clear hi140_0 hl140_0;replace p140:=Zz p140;replace q140:=Zz q140)|((with_reducible refine aaz (f:=88) rfl ?_);refine gl_ (some 16) Tryz.func88 #[.agg #[.int .i64 a1, .int .i64 8, .int .i64 1], .int .i64 0] ?_;(with_reducible refine (a6z.calls k a1 8 1 0 t141 t142 _ A4.out).mono ?_);rintro e w9 ⟨rfl,hb⟩;refine ⟨_,rfl,?_⟩;have n_:=Zb (bb_ BK139 hb) (hs_ HB hb);clear BK139 HB;obtain ⟨BK139,HB⟩:=n_;(try clear hb)))
  go_ret;exact ⟨er_,bl_⟩
def blz.f (k:Nat) (l0_0:List (List Int)) (a0_1:Int) (a1:Int):Option (Bool):=(bEz.f l0_0 a0_1 a1).bind fun bt144=>((aCz.f bt144.1 bt144.2.1 bt144.2.2).bind fun t148=>(if t148=true then ((bHz.f k l0_0 a0_1 a1).bind fun t149=>(if t149=true then ((buz.f k bt144.1 bt144.2.1 bt144.2.2 l0_0).bind fun t150=>(some t150)) else (some false))) else (some false)))
theorem blz.calls (k : Nat) (A0_0 : Option Addr) (c0_0 : Nat) (l0_0 : List (List Int)) (a0_1 : Int) (a1 : Int) (r : Bool) (w : World) (hr0_0 : Kd.C (Kd.slice 5 (Kd.int .u8)) w A0_0 l0_0.length l0_0) (hc0_0 : l0_0.length <= c0_0) (h : blz.f k l0_0 a0_1 a1 = some r) :
  Calls Tryz.prog 72 #[.agg #[.slice A0_0 l0_0.length c0_0, .int .i64 a0_1], .int .i64 a1] w fun e w'=>e= .returned (.bool r)/\Below w.heap.size w w':=by
 have hu106:=Tryz.underlying106;have hu23:=Tryz.underlying23;have HR0_0:=Za hr0_0;have HC0_0:=Za hc0_0;clear hr0_0 hc0_0;have HB:=Za (Zw w.heap.size w);have H:=h;clear h;unfold blz.f at H;obtain ⟨⟨t144,t145,t146⟩,A3,H⟩:=ob_ H
 (try dsimp only at H)
 obtain ⟨t148,A4,H⟩:=ob_ H
 (try dsimp only at H)
 by_cases c5:t148=true
 rotate_left
 ·replace c5:=Zr c5;subst c5;rw [Yb (show¬(false=true) by decide)] at H;obtain rfl:=Zn H;go_enter Tryz.func72,Tryz.ntmps72
  go_wp2_with (first|((with_reducible refine aMz (N:=2) rfl ?_);refine bx_ 2 #[.slice A0_0 l0_0.length c0_0, .int .i64 a0_1] 106 ?_;intro gb143 hg w30 hbox hb;have n_:=Zb (hs_ HB hb) (Zb (Za (hbox)) (Zb (ag_ HB gb143) (ag_ HB gb143)));clear HB;obtain ⟨HB,BK143,GW143,GE143⟩:=n_;clear hb hbox hg;obtain ⟨_,_,_,_⟩:=bc2_ BK143.out)|((with_reducible refine aaz (f:=109) rfl ?_);refine gl_ (some 8) Tryz.func109 #[.agg #[.slice A0_0 l0_0.length c0_0, .int .i64 a0_1], .int .i64 a1] ?_;(with_reducible refine (bEz.calls _ _ l0_0 a0_1 a1 t144 t145 t146 _ (xd_ (Kd.azz HR0_0.out HB.out)) (HC0_0.out) A3.out).mono ?_);rintro e w32 ⟨rfl,hb⟩;refine ⟨_,rfl,?_⟩;have n_:=Zb (bb_ BK143 hb) (hs_ HB hb);clear BK143 HB;obtain ⟨BK143,HB⟩:=n_;(try clear hb))|((with_reducible refine aMz (N:=5) rfl ?_);refine bx_ 5 #[.int .i64 0, .int .i64 0, .int .i64 0] 23 ?_;intro gb147 hg w33 hbox hb;have n_:=Zb (bb_ BK143 hb) (Zb (hs_ HB hb) (Zb (Za (hbox)) (Zb (ag_ HB gb147) (Zb (ag_ HB gb147) (Zb (n1_ BK143 gb147) (n2_ BK143 gb147))))));clear BK143 HB;obtain ⟨BK143,HB,BK147,GW147,GE147,NB143_147,NB147_143⟩:=n_;clear hb hbox hg;have hnb34:=NB147_143.out;have hnc34:=NB143_147.out;obtain ⟨_,_,_,_,_,_⟩:=bc3_ BK147.out)|((with_reducible refine aaz (f:=41) rfl ?_);refine gl_ (some 10) Tryz.func41 #[.agg #[.int .i64 t144, .int .i64 t145, .int .i64 t146]] ?_;(with_reducible refine (aCz.calls t144 t145 t146 false _ A4.out).mono ?_);rintro e w36 ⟨rfl,hb⟩;refine ⟨_,rfl,?_⟩;have n_:=Zb (Za (aBz (g:=gb143) (o:= .cells #[.slice A0_0 l0_0.length c0_0, .int .i64 a0_1] 106 (0,0)) kb_ hb)) (Zb (Za (aBz (g:=gb147) (o:= .cells #[.int .i64 t144, .int .i64 t145, .int .i64 t146] 23 (0,0)) kb_ hb)) (hs_ HB hb));clear BK143 BK147 HB;obtain ⟨BK143,BK147,HB⟩:=n_;(try clear hb)))
  go_ret;exact ⟨er_,bl_⟩
 subst c5;rw [Ya rfl] at H;obtain ⟨t149,A6,H⟩:=ob_ H
 (try dsimp only at H)
 by_cases c7:t149=true
 ·subst c7;rw [Ya rfl] at H;obtain ⟨t150,A8,H⟩:=ob_ H
  (try dsimp only at H)
  obtain rfl:=Zn H;go_enter Tryz.func72,Tryz.ntmps72
  go_wp2_with (first|((with_reducible refine aMz (N:=2) rfl ?_);refine bx_ 2 #[.slice A0_0 l0_0.length c0_0, .int .i64 a0_1] 106 ?_;intro gb143 hg w9 hbox hb;have n_:=Zb (hs_ HB hb) (Zb (Za (hbox)) (Zb (ag_ HB gb143) (ag_ HB gb143)));clear HB;obtain ⟨HB,BK143,GW143,GE143⟩:=n_;clear hb hbox hg;obtain ⟨_,_,_,_⟩:=bc2_ BK143.out)|((with_reducible refine aaz (f:=109) rfl ?_);refine gl_ (some 8) Tryz.func109 #[.agg #[.slice A0_0 l0_0.length c0_0, .int .i64 a0_1], .int .i64 a1] ?_;(with_reducible refine (bEz.calls _ _ l0_0 a0_1 a1 t144 t145 t146 _ (xd_ (Kd.azz HR0_0.out HB.out)) (HC0_0.out) A3.out).mono ?_);rintro e w11 ⟨rfl,hb⟩;refine ⟨_,rfl,?_⟩;have n_:=Zb (bb_ BK143 hb) (hs_ HB hb);clear BK143 HB;obtain ⟨BK143,HB⟩:=n_;(try clear hb))|((with_reducible refine aMz (N:=5) rfl ?_);refine bx_ 5 #[.int .i64 0, .int .i64 0, .int .i64 0] 23 ?_;intro gb147 hg w12 hbox hb;have n_:=Zb (bb_ BK143 hb) (Zb (hs_ HB hb) (Zb (Za (hbox)) (Zb (ag_ HB gb147) (Zb (ag_ HB gb147) (Zb (n1_ BK143 gb147) (n2_ BK143 gb147))))));clear BK143 HB;obtain ⟨BK143,HB,BK147,GW147,GE147,NB143_147,NB147_143⟩:=n_;clear hb hbox hg;have hnb13:=NB147_143.out;have hnc13:=NB143_147.out;obtain ⟨_,_,_,_,_,_⟩:=bc3_ BK147.out)|((with_reducible refine aaz (f:=41) rfl ?_);refine gl_ (some 10) Tryz.func41 #[.agg #[.int .i64 t144, .int .i64 t145, .int .i64 t146]] ?_;(with_reducible refine (aCz.calls t144 t145 t146 true _ A4.out).mono ?_);rintro e w15 ⟨rfl,hb⟩;refine ⟨_,rfl,?_⟩;have n_:=Zb (Za (aBz (g:=gb143) (o:= .cells #[.slice A0_0 l0_0.length c0_0, .int .i64 a0_1] 106 (0,0)) kb_ hb)) (Zb (Za (aBz (g:=gb147) (o:= .cells #[.int .i64 t144, .int .i64 t145, .int .i64 t146] 23 (0,0)) kb_ hb)) (hs_ HB hb));clear BK143 BK147 HB;obtain ⟨BK143,BK147,HB⟩:=n_;(try clear hb);obtain ⟨_,_,_,_⟩:=bc2_ BK143.out)|(go_at_call 110;(with_reducible refine (bHz.calls k _ _ l0_0 a0_1 a1 true _ (xd_ (Kd.azz HR0_0.out HB.out)) (HC0_0.out) A6.out).mono ?_);rintro e w17 ⟨rfl,hb⟩;have n_:=Zb (bb_ BK143 hb) (Zb (bb_ BK147 hb) (hs_ HB hb));clear BK143 BK147 HB;obtain ⟨BK143,BK147,HB⟩:=n_;(try clear hb);obtain ⟨_,_,_,_,_,_⟩:=bc3_ BK147.out;obtain ⟨_,_,_,_⟩:=bc2_ BK143.out)|(go_at_call 22;(with_reducible refine (buz.calls k t144 t145 t146 _ _ l0_0 t150 _ (xd_ (Kd.azz HR0_0.out HB.out)) (HC0_0.out) A8.out).mono ?_);rintro e w20 ⟨rfl,hb⟩;have n_:=Zb (bb_ BK143 hb) (Zb (bb_ BK147 hb) (hs_ HB hb));clear BK143 BK147 HB;obtain ⟨BK143,BK147,HB⟩:=n_;(try clear hb)))
  go_ret;exact ⟨er_,bl_⟩
 ·replace c7:=Zr c7;subst c7;rw [Yb (show¬(false=true) by decide)] at H;obtain rfl:=Zn H;go_enter Tryz.func72,Tryz.ntmps72
  go_wp2_with (first|((with_reducible refine aMz (N:=2) rfl ?_);refine bx_ 2 #[.slice A0_0 l0_0.length c0_0, .int .i64 a0_1] 106 ?_;intro gb143 hg w21 hbox hb;have n_:=Zb (hs_ HB hb) (Zb (Za (hbox)) (Zb (ag_ HB gb143) (ag_ HB gb143)));clear HB;obtain ⟨HB,BK143,GW143,GE143⟩:=n_;clear hb hbox hg;obtain ⟨_,_,_,_⟩:=bc2_ BK143.out)|((with_reducible refine aaz (f:=109) rfl ?_);refine gl_ (some 8) Tryz.func109 #[.agg #[.slice A0_0 l0_0.length c0_0, .int .i64 a0_1], .int .i64 a1] ?_;(with_reducible refine (bEz.calls _ _ l0_0 a0_1 a1 t144 t145 t146 _ (xd_ (Kd.azz HR0_0.out HB.out)) (HC0_0.out) A3.out).mono ?_);rintro e w23 ⟨rfl,hb⟩;refine ⟨_,rfl,?_⟩;have n_:=Zb (bb_ BK143 hb) (hs_ HB hb);clear BK143 HB;obtain ⟨BK143,HB⟩:=n_;(try clear hb))|((with_reducible refine aMz (N:=5) rfl ?_);refine bx_ 5 #[.int .i64 0, .int .i64 0, .int .i64 0] 23 ?_;intro gb147 hg w24 hbox hb;have n_:=Zb (bb_ BK143 hb) (Zb (hs_ HB hb) (Zb (Za (hbox)) (Zb (ag_ HB gb147) (Zb (ag_ HB gb147) (Zb (n1_ BK143 gb147) (n2_ BK143 gb147))))));clear BK143 HB;obtain ⟨BK143,HB,BK147,GW147,GE147,NB143_147,NB147_143⟩:=n_;clear hb hbox hg;have hnb25:=NB147_143.out;have hnc25:=NB143_147.out;obtain ⟨_,_,_,_,_,_⟩:=bc3_ BK147.out)|((with_reducible refine aaz (f:=41) rfl ?_);refine gl_ (some 10) Tryz.func41 #[.agg #[.int .i64 t144, .int .i64 t145, .int .i64 t146]] ?_;(with_reducible refine (aCz.calls t144 t145 t146 true _ A4.out).mono ?_);rintro e w27 ⟨rfl,hb⟩;refine ⟨_,rfl,?_⟩;have n_:=Zb (Za (aBz (g:=gb143) (o:= .cells #[.slice A0_0 l0_0.length c0_0, .int .i64 a0_1] 106 (0,0)) kb_ hb)) (Zb (Za (aBz (g:=gb147) (o:= .cells #[.int .i64 t144, .int .i64 t145, .int .i64 t146] 23 (0,0)) kb_ hb)) (hs_ HB hb));clear BK143 BK147 HB;obtain ⟨BK143,BK147,HB⟩:=n_;(try clear hb);obtain ⟨_,_,_,_⟩:=bc2_ BK143.out)|(go_at_call 110;(with_reducible refine (bHz.calls k _ _ l0_0 a0_1 a1 false _ (xd_ (Kd.azz HR0_0.out HB.out)) (HC0_0.out) A6.out).mono ?_);rintro e w29 ⟨rfl,hb⟩;have n_:=Zb (bb_ BK143 hb) (Zb (bb_ BK147 hb) (hs_ HB hb));clear BK143 BK147 HB;obtain ⟨BK143,BK147,HB⟩:=n_;(try clear hb)))
  go_ret;exact ⟨er_,bl_⟩
def bvz.l0:Nat->List Int->Int->Option (List Int)
 |0,_,_=>none
 |k+1,x1,x3=>if x3<6 then (if x1.length<17592186044416 then (bvz.l0 k (x1++ [wrap64 (x3+1)]) (wrap64 (x3+1))) else (none)) else (some x1)
def bvz.f (k:Nat)  :Option (List Int):=bvz.l0 k ([] :List Int) 0
theorem bvz.aXz: ∀k,(∀y0 y1,LeO (bvz.l0 k y0 y1) (bvz.l0 (k+1) y0 y1))
 |0=>fun _ _ r h=>by simp [bvz.l0] at h
 |k+1=>by
  have ih0:=bvz.aXz k
  ·intro y0 y1;unfold bvz.l0
   repeat' with_reducible first|apply ih0|apply Yg|apply Yh|apply Yi|refine Yj ?_ fun _=>?_
theorem bvz.mono: ∀k,LeO (bvz.f k) (bvz.f (k+1)):=by
 intro  k;have ih0:=bvz.aXz k;unfold bvz.f
 repeat' with_reducible first|apply ih0|apply Yg|apply Yh|apply Yi|refine Yj ?_ fun _=>?_
theorem bvz.calls (k : Nat)  (r : List Int) (w : World) (h : bvz.f k  = some r) :
  Calls Tryz.prog 73 #[] w fun e w'=> ∃v0_:Value,e= .returned (v0_)/\Kd.R (Kd.int .i64) 3 w' w.heap.size (fun _=>True) v0_ r/\Below w.heap.size w w':=by
 have HB:=Za (Zw w.heap.size w);have H:=h;clear h;unfold bvz.f at H;have H':=Za H;clear H;go_enter Tryz.func73,Tryz.ntmps73;go_wp2
 go_loopg [1,3] k (fun kq v1 v3 w'=> ∃(x1_1:List Int) (x3_1:Int),v3= .int .i64 x3_1/\Aside0 (bvz.l0 kq x1_1 x3_1=some r)/\Aside0 (kq<=k)/\Aside0 (Kd.R (Kd.int .i64) 3 w' w.heap.size (fun _=>True) v1 x1_1)/\Aside0 (Below w.heap.size w w'))
 case atStart=>exact ⟨(([] :List Int)),(0),sd_,H',⟨Zv _⟩,⟨nl_⟩,⟨bl_⟩⟩
 clear H';obtain ⟨x1_1,x3_1,rfl,HA,HK1,HO_1,HB⟩:=hrel;rcases gk with _|k1
 ·exact Yf HA.out (by simp [bvz.l0])
 have H:=HA.out;clear HA;simp only [bvz.l0] at H;by_cases c1:x3_1<6
 rotate_left
 ·rw [Yb c1] at H;have c1b0:=Ze c1;clear c1;obtain rfl:=Zn H;go_wp2;go_ret;exact ⟨_,er_,xd_ HO_1.out,bl_⟩
 rw [Ya c1] at H;have c1b0:=Zd c1;clear c1;by_cases c2:x1_1.length<17592186044416
 rotate_left
 ·rw [Yb c2] at H;exact Yf H (by simp)
 rw [Ya c2] at H;have LMc2:=Za c2;clear c2;obtain ⟨y151,hy151⟩: ∃y_:List Int,y_=(x1_1++ [wrap64 (x3_1+1)]):=⟨_,rfl⟩
 first|rw [Zl, <-hy151] at H|rw [<-hy151] at H
 (try dsimp only at H)
 have Ny151:=Za hy151;clear hy151;have H':=Za H;clear H
 go_wp2_with (first|((with_reducible refine aoz (b:= .append) (xs:= #[.tmp 6, .tmp 9]) rfl ?_);at_builtin;refine Kd.bmz (Kd.int .i64) (w0:=w) w.heap.size rfl (.tmp 6) (.tmp 9) 57 3 (.int .i64 0) 8 rfl Tryz.underlying57 info3 rfl (by decide) (by omega) u1 x1_1 (wrap64 (x3_1+1)) [.int .i64 (wrap64 (x3_1+1))] (fun _=>True) (fun _=>False) rfl rfl ?aP (fun _ hk=>hk.elim) ?aF ?aO ?aB ?aS ?aL ?_;(case aP=>exact rfl);(case aB=>exact bl_);(case aF=>exact (fun _ _=>trivial));(case aO=>exact (xd_ HO_1.out));(case aS=>exact (adz bl_));(case aL=>have:=LMc2.out;omega);intro v152 w3 ho hb hg hat;rw [<-Ny151.out] at ho;have n_:=Zb (Za (hb)) (Za (ho));clear HB HO_1;obtain ⟨HB,HO153⟩:=n_;clear ho hb hg hat))
 go_roundg k1
 case measure=>have:=HK1.out;omega
 case rel=>exact ⟨(y151),(wrap64 (x3_1+1)),sd_,H',⟨by have:=HK1.out;omega⟩,⟨xd_ HO153.out⟩,⟨bl_⟩⟩
def bgz.l (k:Nat) (l:List (List Int)) (a:Int):List Int->List Int->Option (List Int)
 | [],acc=>some acc
 |p::ps,acc=>(blz.f k l a p).bind fun b=>bgz.l k l a ps (if b=true then acc++ [p] else acc)
def bgz.f (k:Nat) (l0:List (List Int)) (a1:Int):Option (List Int):=(bvz.f k).bind fun ps=>if ps.length<=1000 then bgz.l k l0 a1 ps [] else none
theorem bgz.calls (k : Nat) (A0 : Option Addr) (c0 : Nat) (l0 : List (List Int)) (a1 : Int) (r : List Int) (w : World) (hr0 : Kd.C (Kd.slice 5 (Kd.int .u8)) w A0 l0.length l0) (hc0 : l0.length <= c0) (h : bgz.f k l0 a1 = some r) :
  Calls Tryz.prog 39 #[.slice A0 l0.length c0, .int .i64 a1] w fun e w'=> ∃v0_:Value,e= .returned (v0_)/\Kd.R (Kd.int .i64) 3 w' w.heap.size (fun _=>True) v0_ r/\Below w.heap.size w w':=by
 unfold bgz.f at h;obtain ⟨ps,hps,h⟩:=Option.bind_eq_some_iff.1 h;by_cases hpl:ps.length<=1000
 rotate_left
 ·rw [Yb hpl] at h;cases h
 rw [Ya hpl] at h;have HALL:=Za (bvz.calls k ps w hps);have HPA:=Za (fun (w1:World) (p:Int) (b:Bool) (hB:Below w.heap.size w w1) (hp:blz.f k l0 a1 p=some b)=>blz.calls k A0 c0 l0 a1 p b w1 (Kd.azz hr0 hB) hc0 hp);have HL:=Za h;have HPL:=Za hpl;have hmf: ∀(fn:Fn) (first cap:Array Value) (w:World),(Instr.makeFunc fn first cap).run Tryz.prog w= .ok (.func fn first cap) w:=fun _ _ _ _=>rfl
 obtain ⟨n0,hn0⟩: ∃n0,l0.length=n0:=⟨_,rfl⟩;rw [hn0] at HPA|-;clear hr0 hc0 hps h hpl hn0;go_enter Tryz.func39,Tryz.ntmps39
 go_wp2_with fail
 refine HALL.out.mono ?_;rintro e w1 ⟨v,rfl,p1,p2⟩;obtain ⟨A1,cp,rfl,lp, -⟩:=Kd.djz p1;have HC1:=Za (Kd.aPz p1).2.2;have HB1:=Za p2;obtain ⟨n,hn⟩: ∃n,ps.length=n:=⟨_,rfl⟩;have HN:=Za hn;have hn1000:n<=1000:=by have:=HPL.out;omega
 rw [hn];clear p1 p2 lp HALL hn;go_wp2
 go_loopw [6,15] (fun v iv wr=> ∃(k':Nat) (acc:List Int),k'<=n/\iv= .int .i64 (k':Int)/\Aside0 (Kd.R (Kd.int .i64) 3 wr w1.heap.size (fun _=>True) v acc)/\Aside0 (Below w1.heap.size w1 wr)/\Aside0 (bgz.l k l0 a1 (ps.drop k') acc=some r)/\acc.length<=k') (fun _ iv _=>n - (intOf iv).toNat)
 case atStart=>exact ⟨0, [],Nat.zero_le _,rfl,⟨Kd.R_nil _ _ _ _ _⟩,⟨Zw _ _⟩,HL,Nat.zero_le _⟩
 clear HL;obtain ⟨w2,rfl⟩: ∃w2,w2=wr:=⟨_,rfl⟩;obtain ⟨k',acc,hk,rfl,HO,HB,HL,hacc⟩:=hrel;by_cases hlt:k'<n
 ·obtain ⟨p,hp⟩: ∃x,ps[k']?=some x:=⟨_,Zf (by have:=HN.out;omega)⟩
  have hdr:ps.drop k'=p::ps.drop (k'+1):=by
   obtain ⟨h1,h2⟩:=Zk hp;rw [List.drop_eq_getElem_cons h1,h2]
  have hl:=HL.out;rw [hdr,bgz.l] at hl;obtain ⟨b,hb,hl2⟩:=Option.bind_eq_some_iff.1 hl;obtain ⟨ad,rfl,hcell⟩:=cvz (Kd.azz HC1.out HB.out) k' p hp;have HCP:=Za (HPA.out w2 p b (HB1.out.trans (HB.out.mono HB1.out.size)) hb);have HL2:=Za hl2;have HAC:=Za hacc;have k1:(0:Int)<=(k':Int):=by omega
  have k2:(k':Int)<(n:Int):=by omega
  clear hp hdr hl hl2 hb HL hacc
  go_wp2_with fail
  refine HCP.out.mono ?_;rintro e w3 ⟨rfl,q1⟩;have HB3:=Za (HB.out.trans (q1.mono HB.out.size));have HO3:=Za (Kd.bUz HO.out q1);clear q1 HCP HO hcell
  cases b with
  |true=>
   have hl3:=HL2.out;rw [Ya rfl] at hl3;have HL3:=Za hl3;clear hl3 HL2
   go_wp2_with ((with_reducible refine aoz (b:= .append) (xs:= #[.tmp 22, .tmp 24]) rfl ?_);go_must (at_builtin;refine Kd.bmz (Kd.int .i64) (w0:=w1) w1.heap.size rfl (.tmp 22) (.tmp 24) 57 3 (.int .i64 0) 8 rfl Tryz.underlying57 kr_ rfl (by decide) (by decide) _ _ p [.int .i64 p] (fun _=>True) (fun _=>False) rfl rfl rfl (fun _ h=>h.elim) (fun _ _=>trivial) HO3.out HB3.out HB3.out.size ?aL ?_;(case aL=>have:=HAC.out;omega));intro v2 w4 ho2 hb2 hg2 hat2;have HO4:=Za ho2;have HB4:=Za hb2;clear ho2 hb2 hg2 hat2)
   go_roundw
   case rel=>exact ⟨k'+1,acc++ [p],by omega,by go_num,HO4,HB4,HL3,by have:=HAC.out;simp;omega⟩
   case measure=>simp [intOf];omega
  |false=>
   have hl3:=HL2.out;rw [Yb (by decide)] at hl3;have HL3:=Za hl3;clear hl3 HL2;go_wp2;go_roundw
   case rel=>exact ⟨k'+1,acc,by omega,by go_num,HO3,HB3,HL3,by have:=HAC.out;omega⟩
   case measure=>simp [intOf];omega
 ·obtain rfl:k'=n:=by omega
  have hl:=HL.out;rw [List.drop_of_length_le (by have:=HN.out;omega),bgz.l] at hl;obtain rfl:=Zn hl;have HFN:=Za HO.out;clear hl HL;go_wp2;go_ret;exact ⟨_,rfl,Kd.bAz HFN.out HB1.out.size,HB1.out.trans (HB.out.mono HB1.out.size)⟩
def cGz.f (k:Nat) (l0:List (List Int)) (a1:Int):Option (Int×Int):=(bgz.f k l0 a1).bind fun t154=>(if (t154.length:Int)=0 then (some (0,4)) else (if (t154.length:Int)=1 then (if 0<(t154.length:Int) then (some (rd t154 0,0)) else (none)) else (some (0,6))))
theorem cGz.calls (k : Nat) (A0 : Option Addr) (c0 : Nat) (l0 : List (List Int)) (a1 : Int) (r1 : Int) (r2 : Int) (w : World) (hr0 : Kd.C (Kd.slice 5 (Kd.int .u8)) w A0 l0.length l0) (hc0 : l0.length <= c0) (h : cGz.f k l0 a1 = some (r1, r2)) :
  Calls Tryz.prog 36 #[.slice A0 l0.length c0, .int .i64 a1] w fun e w'=>e= .returned (.tuple #[.int .i64 r1, .int .i64 r2])/\Below w.heap.size w w':=by
 have HR0:=Za hr0;have HC0:=Za hc0;clear hr0 hc0;have HB:=Za (Zw w.heap.size w);have H:=h;clear h;unfold cGz.f at H;obtain ⟨t154,A3,H⟩:=ob_ H
 (try dsimp only at H)
 by_cases c4:(t154.length:Int)=0
 ·rw [Ya c4] at H;have c4b0:((t154.length:Int)==0)=true:=Ye c4;have c4b1:((t154.length:Int) !=0)=false:=Yc c4;clear c4;simp only [Zx,Zy] at H;obtain ⟨rfl,rfl⟩:=H;go_enter Tryz.func36,Tryz.ntmps36
  go_wp2_with (first|((with_reducible refine aaz (f:=39) rfl ?_);refine gl_ (some 9) Tryz.func39 #[.slice A0 l0.length c0, .int .i64 a1] ?_;(with_reducible refine (bgz.calls k _ _ l0 a1 t154 _ (xd_ HR0.out) (HC0.out) A3.out).mono ?_);rintro e w5 ⟨v155,rfl,ho0,hb⟩;refine ⟨_,rfl,?_⟩;have n_:=Zb (Za (Kd.bAz ho0 (adz bl_))) (hs_ HB hb);clear HB;obtain ⟨HO156,HB⟩:=n_;clear hb ho0;obtain ⟨Ao6,co6,eo6⟩:=Kd.a3z HO156.out;subst eo6))
  go_ret2;exact ⟨er_,bl_⟩
 ·rw [Yb c4] at H;have c4b0:((t154.length:Int)==0)=false:=Zq c4;have c4b1:((t154.length:Int) !=0)=true:=Yd c4;have c4b2: ¬(t154= []):=fun h_=>c4 (by rw [h_];rfl)
  by_cases c7:(t154.length:Int)=1
  rotate_left
  ·rw [Yb c7] at H;have c7b0:((t154.length:Int)==1)=false:=Zq c7;have c7b1:((t154.length:Int) !=1)=true:=Yd c7;simp only [Zx,Zy] at H;obtain ⟨rfl,rfl⟩:=H;go_enter Tryz.func36,Tryz.ntmps36
   go_wp2_with (first|((with_reducible refine aaz (f:=39) rfl ?_);refine gl_ (some 9) Tryz.func39 #[.slice A0 l0.length c0, .int .i64 a1] ?_;(with_reducible refine (bgz.calls k _ _ l0 a1 t154 _ (xd_ HR0.out) (HC0.out) A3.out).mono ?_);rintro e w11 ⟨v155,rfl,ho0,hb⟩;refine ⟨_,rfl,?_⟩;have n_:=Zb (Za (Kd.bAz ho0 (adz bl_))) (hs_ HB hb);clear HB;obtain ⟨HO156,HB⟩:=n_;clear hb ho0;obtain ⟨Ao12,co12,eo12⟩:=Kd.a3z HO156.out;subst eo12))
   go_ret2;exact ⟨er_,bl_⟩
  rw [Ya c7] at H;have c7b0:((t154.length:Int)==1)=true:=Ye c7;have c7b1:((t154.length:Int) !=1)=false:=Yc c7;clear c7;by_cases c8:0<(t154.length:Int)
  ·rw [Ya c8] at H;have c8b0:=Zd c8;have c8b1:decide (0<t154.length)=true:=Zd (by omega);clear c8;simp only [Zx,Zy] at H;obtain ⟨rfl,rfl⟩:=H;go_enter Tryz.func36,Tryz.ntmps36
   go_wp2_with (first|((with_reducible refine aaz (f:=39) rfl ?_);refine gl_ (some 9) Tryz.func39 #[.slice A0 l0.length c0, .int .i64 a1] ?_;(with_reducible refine (bgz.calls k _ _ l0 a1 t154 _ (xd_ HR0.out) (HC0.out) A3.out).mono ?_);rintro e w9 ⟨v155,rfl,ho0,hb⟩;refine ⟨_,rfl,?_⟩;have n_:=Zb (Za (Kd.bAz ho0 (adz bl_))) (hs_ HB hb);clear HB;obtain ⟨HO156,HB⟩:=n_;clear hb ho0;obtain ⟨Ao10,co10,eo10⟩:=Kd.a3z HO156.out;subst eo10;have p157:0<=(0:Int):=(by omega);have q157:0<(t154.length:Int):=Zc as_;obtain ⟨_,e157,hx157_0⟩:=Kd.boz (Kd.aPz HO156.out).2.2 0 p157 q157;cases e157;have qi157:(0<t154.length)=True:=Zz (by omega);(try rw [show ((0:Int)).toNat=0 from rfl] at hx157_0);(try rw [Addr.add_zero'] at hx157_0);replace p157:=Zz p157;replace q157:=Zz q157))
   go_ret2;exact ⟨er_,bl_⟩
  ·rw [Yb c8] at H;exact Yf H (by simp)
mutual
def aHz.l0:Nat->List (List Int)->Int->Option (Bool)
 |0,_,_=>none
 |k+1,x0,x3=>if x3<(x0.length:Int) then (aHz.j1 k x0 x3 (decide (x3<13))) else (aHz.j1 k x0 x3 false)
def aHz.j1:Nat->List (List Int)->Int->Bool->Option (Bool)
 |0,_,_,_=>none
 |k+1,x0,x3,x11=>if x11=true then (if 0<=x3 then (if x3<(x0.length:Int) then (if ((rd_L1 x0 x3).length:Int)>300 then (some false) else (aHz.l0 k x0 (wrap64 (x3+1)))) else (none)) else (none)) else (some (decide ((x0.length:Int)<=12)))
end
def aHz.f (k:Nat) (l0:List (List Int)):Option (Bool):=aHz.l0 k l0 0
theorem aHz.calls (k : Nat) (A0 : Option Addr) (c0 : Nat) (l0 : List (List Int)) (r : Bool) (w : World) (hr0 : Kd.C (Kd.slice 5 (Kd.int .u8)) w A0 l0.length l0) (hc0 : l0.length <= c0) (h : aHz.f k l0 = some r) :
  Calls Tryz.prog 18 #[.slice A0 l0.length c0] w fun e w'=>e= .returned (.bool r)/\Drawn0 w w':=by
 have HR0:=Za hr0;have HC0:=Za hc0;clear hr0 hc0;have H:=h;clear h;unfold aHz.f at H;have H':=Za H;clear H;go_enter Tryz.func18,Tryz.ntmps18;go_wp2
 go_loopg [3] k (fun kq v3 w'=> ∃(x3_1:Int),v3= .int .i64 x3_1/\Aside0 (aHz.l0 kq l0 x3_1=some r)/\Aside0 (kq<=k)/\Drawn0 w w')
 case atStart=>exact ⟨(0),sd_,H',⟨Zv _⟩,dn_⟩
 clear H';obtain ⟨x3_1,rfl,HA,HK1,⟨m1,rfl⟩⟩:=hrel;rcases gk with _|k1
 ·exact Yf HA.out (by simp [aHz.l0])
 have H:=HA.out;clear HA;simp only [aHz.l0] at H;have HC2:=Za H;clear H
 go_upto_region 2 with (fail)
 go_cut [11] (fun v11 wc=> ∃(kq:Nat) (x11_1:Bool),v11= .bool x11_1/\Aside0 (aHz.j1 kq l0 x3_1 x11_1=some r)/\Aside0 (kq<=k1)/\Drawn0 w wc)
 case first=>
  have H:=HC2.out;clear HC2;by_cases c3:x3_1<(l0.length:Int)
  ·rw [Ya c3] at H;have c3b0:=Zd c3;clear c3
   (first|rw [c3b0] |(simp only [i64_w,i32_w];rw [c3b0])|skip)
   have H':=Za H;clear H;go_wp2
   go_meet
   case rel=>exact ⟨_,(decide (x3_1<13)),sd_,H',⟨by have:=HK1.out;first|omega|exact Zv _⟩,dn_⟩
  ·rw [Yb c3] at H;have c3b0:=Ze c3;clear c3
   (first|rw [c3b0] |(simp only [i64_w,i32_w];rw [c3b0])|skip)
   have H':=Za H;clear H;go_wp2
   go_meet
   case rel=>exact ⟨_,(false),sd_,H',⟨by have:=HK1.out;first|omega|exact Zv _⟩,dn_⟩
 case rest=>
  clear HC2;obtain ⟨kq,x11_1,rfl,HA,HJ1,⟨mc1,rfl⟩⟩:=hcut;rcases kq with _|kj1
  ·exact Yf HA.out (by simp [aHz.j1])
  have H:=HA.out;clear HA;simp only [aHz.j1] at H;by_cases c4:x11_1=true
  rotate_left
  ·replace c4:=Zr c4;subst c4;rw [Yb (show¬(false=true) by decide)] at H;obtain rfl:=Zn H;go_wp2;go_ret;exact ⟨sd_,dn_⟩
  subst c4;rw [Ya rfl] at H;by_cases c5:0<=x3_1
  rotate_left
  ·rw [Yb c5] at H;exact Yf H (by simp)
  rw [Ya c5] at H;have c5b0:=Zd c5;clear c5;by_cases c6:x3_1<(l0.length:Int)
  rotate_left
  ·rw [Yb c6] at H;exact Yf H (by simp)
  rw [Ya c6] at H;have c6b0:=Zd c6;clear c6;by_cases c7:((rd_L1 l0 x3_1).length:Int)>300
  ·rw [Ya c7] at H;have c7b0:decide (300<((rd_L1 l0 x3_1).length:Int))=true:=Zd c7;have c7b1:decide (300<(rd_L1 l0 x3_1).length)=true:=Zd (by omega);clear c7;obtain rfl:=Zn H;have p234:0<=(x3_1:Int):=Zc as_;have q234:x3_1<(l0.length:Int):=Zc as_;obtain ⟨_,A234_0,c234_0,e234,hx234_0,hl234_0,hi234_0⟩:=at_L1 HR0.out x3_1 p234 q234;cases e234
   have HR234_0:=Za hi234_0;have HC234_0:=Za hl234_0;clear hi234_0 hl234_0;replace p234:=Zz p234;replace q234:=Zz q234;go_wp2;go_ret;exact ⟨sd_,dn_⟩
  ·rw [Yb c7] at H;have c7b0:decide (300<((rd_L1 l0 x3_1).length:Int))=false:=Ze c7;have c7b1:decide (300<(rd_L1 l0 x3_1).length)=false:=Ze (by omega);clear c7;have H':=Za H;clear H;have p234:0<=(x3_1:Int):=Zc as_;have q234:x3_1<(l0.length:Int):=Zc as_;obtain ⟨_,A234_0,c234_0,e234,hx234_0,hl234_0,hi234_0⟩:=at_L1 HR0.out x3_1 p234 q234;cases e234
   have HR234_0:=Za hi234_0;have HC234_0:=Za hl234_0;clear hi234_0 hl234_0;replace p234:=Zz p234;replace q234:=Zz q234;go_wp2
   go_roundg kj1
   case measure=>have:=HK1.out;have:=HJ1.out;omega
   case rel=>exact ⟨(wrap64 (x3_1+1)),sd_,H',⟨by have:=HK1.out;have:=HJ1.out;omega⟩,dn_⟩
def biz.l0:Nat->List (List Int)->Int->ByteArray->Int->Int->Int->Int->Option (Bool)
 |0,_,_,_,_,_,_,_=>none
 |k+1,x1,x7,x433000,x433001,x433002,x433003,x433004=>if x7<(x1.length:Int) then (if 0<=x7 then (if 0<(x1.length:Int) then (if ((rd_L1 x1 x7).length:Int)=((rd_L1 x1 0).length:Int) then (if x433001=0 then (none) else (if (Int.tmod (wrap64 (8*((rd_L1 x1 x7).length:Int))) x433001)=0 then (biz.l0 k x1 (wrap64 (x7+1)) x433000 x433001 x433002 x433003 x433004) else (some false))) else (some false)) else (none)) else (none)) else (some true)
def biz.f (k:Nat) (a0_0:Int) (a0_1:Int) (a0_2:Int) (l1:List (List Int)):Option (Bool):=(aNz.f a0_0).bind fun bt426=>(biz.l0 k l1 0 bt426.1 bt426.2.1 bt426.2.2.1 bt426.2.2.2.1 bt426.2.2.2.2.1)
theorem biz.calls (k : Nat) (a0_0 : Int) (a0_1 : Int) (a0_2 : Int) (A1 : Option Addr) (c1 : Nat) (l1 : List (List Int)) (r : Bool) (w : World) (hr1 : Kd.C (Kd.slice 5 (Kd.int .u8)) w A1 l1.length l1) (hc1 : l1.length <= c1) (h : biz.f k a0_0 a0_1 a0_2 l1 = some r) :
  Calls Tryz.prog 49 #[.agg #[.int .i64 a0_0, .int .i64 a0_1, .int .i64 a0_2], .slice A1 l1.length c1] w fun e w'=>e= .returned (.bool r)/\Below w.heap.size w w':=by
 have hu23:=Tryz.underlying23;have hu79:=Tryz.underlying79;have HR1:=Za hr1;have HC1:=Za hc1;clear hr1 hc1;have HB:=Za (Zw w.heap.size w);have H:=h;clear h;unfold biz.f at H;obtain ⟨⟨t426,t427,t428,t429,t430,t431⟩,A3,H⟩:=ob_ H
 (try dsimp only at H)
 have H':=Za H;clear H;go_enter Tryz.func49,Tryz.ntmps49
 go_wp2_with (first|((with_reducible refine aMz (N:=2) rfl ?_);(try (refine aVz (by rfl) ?_;dsimp only));refine bx_ 2 #[.int .i64 a0_0, .int .i64 a0_1, .int .i64 a0_2] 23 ?_;intro gb425 hg w4 hbox hb;have n_:=Zb (hs_ HB hb) (Zb (Za (hbox)) (Zb (ag_ HB gb425) (ag_ HB gb425)));clear HB;obtain ⟨HB,BK425,GW425,GE425⟩:=n_;clear hb hbox hg;obtain ⟨hcz5_0,hfz5_0,hcz5_1,hfz5_1,hcz5_2,hfz5_2⟩:=bc3_ BK425.out)|(go_at_call 50;(with_reducible refine (aNz.calls a0_0 t426 t427 t428 t429 t430 t431 _ A3.out).mono ?_);rintro e w6 ⟨rfl,hb⟩;have n_:=Zb (bb_ BK425 hb) (hs_ HB hb);clear BK425 HB;obtain ⟨BK425,HB⟩:=n_;(try clear hb))|((with_reducible refine aMz (N:=5) rfl ?_);(try (refine aVz (by rfl) ?_;dsimp only));refine b4z ?hg (N:=5) ?hd (cs:= #[.string (⟨#[]⟩:ByteArray), .int .i64 0, .int .u32 0, .int .u8 0, .int .i64 0]) (t:=79) ?hr ?_;(case hd=>rfl);(case hg=>rfl);(case hr=>first|(go_simp;done)|(go_simp;rfl));intro gb432 hg w7 hbox hb;have n_:=Zb (bb_ BK425 hb) (Zb (hs_ HB hb) (Zb (Za (hbox)) (Zb (ag_ HB gb432) (Zb (ag_ HB gb432) (Zb (n1_ BK425 gb432) (n2_ BK425 gb432))))));clear BK425 HB;obtain ⟨BK425,HB,BK432,GW432,GE432,NB425_432,NB432_425⟩:=n_;clear hb hbox hg;have hnb8:=NB432_425.out;have hnc8:=NB425_432.out;obtain ⟨hcz9_0,hfz9_0,hcz9_1,hfz9_1,hcz9_2,hfz9_2,hcz9_3,hfz9_3,hcz9_4,hfz9_4⟩:=bc5_ BK432.out))
 repeat (go_quiet (first|((with_reducible refine aMz (N:=2) rfl ?_);(try (refine aVz (by rfl) ?_;dsimp only));refine bx_ 2 #[.int .i64 a0_0, .int .i64 a0_1, .int .i64 a0_2] 23 ?_;intro gb425 hg w4 hbox hb;have n_:=Zb (hs_ HB hb) (Zb (Za (hbox)) (Zb (ag_ HB gb425) (ag_ HB gb425)));clear HB;obtain ⟨HB,BK425,GW425,GE425⟩:=n_;clear hb hbox hg;obtain ⟨hcz5_0,hfz5_0,hcz5_1,hfz5_1,hcz5_2,hfz5_2⟩:=bc3_ BK425.out)|(go_at_call 50;(with_reducible refine (aNz.calls a0_0 t426 t427 t428 t429 t430 t431 _ A3.out).mono ?_);rintro e w6 ⟨rfl,hb⟩;have n_:=Zb (bb_ BK425 hb) (hs_ HB hb);clear BK425 HB;obtain ⟨BK425,HB⟩:=n_;(try clear hb))|((with_reducible refine aMz (N:=5) rfl ?_);(try (refine aVz (by rfl) ?_;dsimp only));refine b4z ?hg (N:=5) ?hd (cs:= #[.string (⟨#[]⟩:ByteArray), .int .i64 0, .int .u32 0, .int .u8 0, .int .i64 0]) (t:=79) ?hr ?_;(case hd=>rfl);(case hg=>rfl);(case hr=>first|(go_simp;done)|(go_simp;rfl));intro gb432 hg w7 hbox hb;have n_:=Zb (bb_ BK425 hb) (Zb (hs_ HB hb) (Zb (Za (hbox)) (Zb (ag_ HB gb432) (Zb (ag_ HB gb432) (Zb (n1_ BK425 gb432) (n2_ BK425 gb432))))));clear BK425 HB;obtain ⟨BK425,HB,BK432,GW432,GE432,NB425_432,NB432_425⟩:=n_;clear hb hbox hg;have hnb8:=NB432_425.out;have hnc8:=NB425_432.out;obtain ⟨hcz9_0,hfz9_0,hcz9_1,hfz9_1,hcz9_2,hfz9_2,hcz9_3,hfz9_3,hcz9_4,hfz9_4⟩:=bc5_ BK432.out));try go_wp2_with (first|((with_reducible refine aMz (N:=2) rfl ?_);(try (refine aVz (by rfl) ?_;dsimp only));refine bx_ 2 #[.int .i64 a0_0, .int .i64 a0_1, .int .i64 a0_2] 23 ?_;intro gb425 hg w4 hbox hb;have n_:=Zb (hs_ HB hb) (Zb (Za (hbox)) (Zb (ag_ HB gb425) (ag_ HB gb425)));clear HB;obtain ⟨HB,BK425,GW425,GE425⟩:=n_;clear hb hbox hg;obtain ⟨hcz5_0,hfz5_0,hcz5_1,hfz5_1,hcz5_2,hfz5_2⟩:=bc3_ BK425.out)|(go_at_call 50;(with_reducible refine (aNz.calls a0_0 t426 t427 t428 t429 t430 t431 _ A3.out).mono ?_);rintro e w6 ⟨rfl,hb⟩;have n_:=Zb (bb_ BK425 hb) (hs_ HB hb);clear BK425 HB;obtain ⟨BK425,HB⟩:=n_;(try clear hb))|((with_reducible refine aMz (N:=5) rfl ?_);(try (refine aVz (by rfl) ?_;dsimp only));refine b4z ?hg (N:=5) ?hd (cs:= #[.string (⟨#[]⟩:ByteArray), .int .i64 0, .int .u32 0, .int .u8 0, .int .i64 0]) (t:=79) ?hr ?_;(case hd=>rfl);(case hg=>rfl);(case hr=>first|(go_simp;done)|(go_simp;rfl));intro gb432 hg w7 hbox hb;have n_:=Zb (bb_ BK425 hb) (Zb (hs_ HB hb) (Zb (Za (hbox)) (Zb (ag_ HB gb432) (Zb (ag_ HB gb432) (Zb (n1_ BK425 gb432) (n2_ BK425 gb432))))));clear BK425 HB;obtain ⟨BK425,HB,BK432,GW432,GE432,NB425_432,NB432_425⟩:=n_;clear hb hbox hg;have hnb8:=NB432_425.out;have hnc8:=NB425_432.out;obtain ⟨hcz9_0,hfz9_0,hcz9_1,hfz9_1,hcz9_2,hfz9_2,hcz9_3,hfz9_3,hcz9_4,hfz9_4⟩:=bc5_ BK432.out)))
 go_loopg [7] k (fun kq v7 w'=> ∃(x7_1:Int),v7= .int .i64 x7_1/\Aside0 (biz.l0 kq l1 x7_1 t426 t427 t428 t429 t430=some r)/\Aside0 (kq<=k)/\Aside0 (w'.heap[gb425]?=some (.cells #[.int .i64 a0_0, .int .i64 a0_1, .int .i64 a0_2] 23 (0,0)))/\Aside0 (w'.heap[gb432]?=some (.cells #[.string t426, .int .i64 t427, .int .u32 t428, .int .u8 t429, .int .i64 t430] 79 (0,0)))/\Aside0 (Below w.heap.size w w'))
 case atStart=>exact ⟨(0),sd_,H',⟨Zv _⟩,⟨kb_⟩,⟨kb_⟩,⟨bl_⟩⟩
 clear H';clear hcz5_0 hcz5_1 hcz5_2 hcz9_0 hcz9_1 hcz9_2 hcz9_3 hcz9_4 hfz5_0 hfz5_1 hfz5_2 hfz9_0 hfz9_1 hfz9_2 hfz9_3 hfz9_4;obtain ⟨x7_1,rfl,HA,HK1,BK425,BK432,HB⟩:=hrel;rcases gk with _|k1
 ·exact Yf HA.out (by simp [biz.l0])
 have H:=HA.out;clear HA;simp only [biz.l0] at H;by_cases c10:x7_1<(l1.length:Int)
 rotate_left
 ·rw [Yb c10] at H;have c10b0:=Ze c10;clear c10;obtain rfl:=Zn H;go_wp2
  repeat (go_quiet (fail);try go_wp2)
  go_ret;exact ⟨er_,bl_⟩
 rw [Ya c10] at H;have c10b0:=Zd c10;clear c10;by_cases c11:0<=x7_1
 rotate_left
 ·rw [Yb c11] at H;exact Yf H (by simp)
 rw [Ya c11] at H;have c11b0:=Zd c11;clear c11;by_cases c12:0<(l1.length:Int)
 rotate_left
 ·rw [Yb c12] at H;exact Yf H (by simp)
 rw [Ya c12] at H;have c12b0:=Zd c12;have c12b1:decide (0<l1.length)=true:=Zd (by omega);clear c12;by_cases c13:((rd_L1 l1 x7_1).length:Int)=((rd_L1 l1 0).length:Int)
 rotate_left
 ·rw [Yb c13] at H;have c13b0:(((rd_L1 l1 x7_1).length:Int)==((rd_L1 l1 0).length:Int))=false:=Zq c13;have c13b1:(((rd_L1 l1 x7_1).length:Int) !=((rd_L1 l1 0).length:Int))=true:=Yd c13
  have c13b2:((rd_L1 l1 x7_1).length==(rd_L1 l1 0).length)=false:=by first|simpa using c13|(simp at c13|-;omega)
  obtain rfl:=Zn H;have p433:0<=(x7_1:Int):=Zc as_;have q433:x7_1<(l1.length:Int):=Zc as_;obtain ⟨ad433,A433_0,c433_0,e433,hx433_0,hl433_0,hi433_0⟩:=at_L1 HR1.out x7_1 p433 q433;cases e433
  replace hx433_0:=(HB.out.cell (Zj w _ hx433_0)).trans hx433_0;have HR433_0:=Za hi433_0;have HC433_0:=Za hl433_0;clear hi433_0 hl433_0;replace p433:=Zz p433;replace q433:=Zz q433;have p434:0<=(0:Int):=(by omega);have q434:0<(l1.length:Int):=Zc as_;obtain ⟨ad434,A434_0,c434_0,e434,hx434_0,hl434_0,hi434_0⟩:=at_L1 HR1.out 0 p434 q434;obtain rfl:ad433=ad434:=(by injection e434);have qi434:(0<l1.length)=True:=Zz (by omega)
  (try rw [show ((0:Int)).toNat=0 from rfl] at hx434_0)
  (try rw [Addr.add_zero'] at hx434_0)
  replace hx434_0:=(HB.out.cell (Zj w _ hx434_0)).trans hx434_0;have HR434_0:=Za hi434_0;have HC434_0:=Za hl434_0;clear hi434_0 hl434_0;replace p434:=Zz p434;replace q434:=Zz q434;go_wp2
  repeat (go_quiet (fail);try go_wp2)
  go_ret;exact ⟨er_,bl_⟩
 rw [Ya c13] at H;have c13b0:(((rd_L1 l1 x7_1).length:Int)==((rd_L1 l1 0).length:Int))=true:=Ye c13;have c13b1:(((rd_L1 l1 x7_1).length:Int) !=((rd_L1 l1 0).length:Int))=false:=Yc c13
 have c13b2:((rd_L1 l1 x7_1).length==(rd_L1 l1 0).length)=true:=by first|simpa using c13|(simp at c13|-;omega)
 clear c13;by_cases c14:t427=0
 ·rw [Ya c14] at H;exact Yf H (by simp)
 ·rw [Yb c14] at H;have c14b0:(t427==0)=false:=Zq c14;have c14b1:(t427 !=0)=true:=Yd c14;by_cases c15:(Int.tmod (wrap64 (8*((rd_L1 l1 x7_1).length:Int))) t427)=0
  rotate_left
  ·rw [Yb c15] at H;have c15b0:((Int.tmod (wrap64 (8*((rd_L1 l1 x7_1).length:Int))) t427)==0)=false:=Zq c15;have c15b1:((Int.tmod (wrap64 (8*((rd_L1 l1 x7_1).length:Int))) t427) !=0)=true:=Yd c15;obtain rfl:=Zn H;have p433:0<=(x7_1:Int):=Zc as_;have q433:x7_1<(l1.length:Int):=Zc as_;obtain ⟨ad433,A433_0,c433_0,e433,hx433_0,hl433_0,hi433_0⟩:=at_L1 HR1.out x7_1 p433 q433;cases e433
   replace hx433_0:=(HB.out.cell (Zj w _ hx433_0)).trans hx433_0;have HR433_0:=Za hi433_0;have HC433_0:=Za hl433_0;clear hi433_0 hl433_0;replace p433:=Zz p433;replace q433:=Zz q433;have p434:0<=(0:Int):=(by omega);have q434:0<(l1.length:Int):=Zc as_;obtain ⟨ad434,A434_0,c434_0,e434,hx434_0,hl434_0,hi434_0⟩:=at_L1 HR1.out 0 p434 q434;obtain rfl:ad433=ad434:=(by injection e434);have qi434:(0<l1.length)=True:=Zz (by omega)
   (try rw [show ((0:Int)).toNat=0 from rfl] at hx434_0)
   (try rw [Addr.add_zero'] at hx434_0)
   replace hx434_0:=(HB.out.cell (Zj w _ hx434_0)).trans hx434_0;have HR434_0:=Za hi434_0;have HC434_0:=Za hl434_0;clear hi434_0 hl434_0;replace p434:=Zz p434;replace q434:=Zz q434;have p435:0<=(x7_1:Int):=Zc as_;have q435:x7_1<(l1.length:Int):=Zc as_;obtain ⟨ad435,A435_0,c435_0,e435,hx435_0,hl435_0,hi435_0⟩:=at_L1 HR1.out x7_1 p435 q435;obtain rfl:ad433=ad435:=(by injection e435);replace hx435_0:=(HB.out.cell (Zj w _ hx435_0)).trans hx435_0;have HR435_0:=Za hi435_0;have HC435_0:=Za hl435_0;clear hi435_0 hl435_0;replace p435:=Zz p435;replace q435:=Zz q435;have ea_:=Zn (hx433_0.symm.trans hx435_0);injection ea_ with ea_ en_ ec_
   subst ea_;subst ec_;clear en_;have hnb18:=NB432_425.out;have hnc18:=NB425_432.out;obtain ⟨_,_,_,_,_,_,_,_,_,_⟩:=bc5_ BK432.out;go_wp2
   repeat (go_quiet (fail);try go_wp2)
   go_ret;exact ⟨er_,bl_⟩
  rw [Ya c15] at H;have c15b0:((Int.tmod (wrap64 (8*((rd_L1 l1 x7_1).length:Int))) t427)==0)=true:=Ye c15;have c15b1:((Int.tmod (wrap64 (8*((rd_L1 l1 x7_1).length:Int))) t427) !=0)=false:=Yc c15;clear c15;have H':=Za H;clear H;have p433:0<=(x7_1:Int):=Zc as_;have q433:x7_1<(l1.length:Int):=Zc as_;obtain ⟨ad433,A433_0,c433_0,e433,hx433_0,hl433_0,hi433_0⟩:=at_L1 HR1.out x7_1 p433 q433;cases e433
  replace hx433_0:=(HB.out.cell (Zj w _ hx433_0)).trans hx433_0;have HR433_0:=Za hi433_0;have HC433_0:=Za hl433_0;clear hi433_0 hl433_0;replace p433:=Zz p433;replace q433:=Zz q433;have p434:0<=(0:Int):=(by omega);have q434:0<(l1.length:Int):=Zc as_;obtain ⟨ad434,A434_0,c434_0,e434,hx434_0,hl434_0,hi434_0⟩:=at_L1 HR1.out 0 p434 q434;obtain rfl:ad433=ad434:=(by injection e434);have qi434:(0<l1.length)=True:=Zz (by omega)
  (try rw [show ((0:Int)).toNat=0 from rfl] at hx434_0)
  (try rw [Addr.add_zero'] at hx434_0)
  replace hx434_0:=(HB.out.cell (Zj w _ hx434_0)).trans hx434_0;have HR434_0:=Za hi434_0;have HC434_0:=Za hl434_0;clear hi434_0 hl434_0;replace p434:=Zz p434;replace q434:=Zz q434;have p435:0<=(x7_1:Int):=Zc as_;have q435:x7_1<(l1.length:Int):=Zc as_;obtain ⟨ad435,A435_0,c435_0,e435,hx435_0,hl435_0,hi435_0⟩:=at_L1 HR1.out x7_1 p435 q435;obtain rfl:ad433=ad435:=(by injection e435);replace hx435_0:=(HB.out.cell (Zj w _ hx435_0)).trans hx435_0;have HR435_0:=Za hi435_0;have HC435_0:=Za hl435_0;clear hi435_0 hl435_0;replace p435:=Zz p435;replace q435:=Zz q435;have ea_:=Zn (hx433_0.symm.trans hx435_0);injection ea_ with ea_ en_ ec_
  subst ea_;subst ec_;clear en_;have hnb16:=NB432_425.out;have hnc16:=NB425_432.out;obtain ⟨_,_,_,_,_,_,_,_,_,_⟩:=bc5_ BK432.out;go_wp2
  repeat (go_quiet (fail);try go_wp2)
  go_roundg k1
  case measure=>have:=HK1.out;omega
  case rel=>exact ⟨(wrap64 (x7_1+1)),sd_,H',⟨by have:=HK1.out;omega⟩,⟨bk_⟩,⟨bk_⟩,⟨bl_⟩⟩
mutual
def aiz.l0:Nat->Int->List (List Int)->Int->Option ((List (List Int)))
 |0,_,_,_=>none
 |k+1,x0,x3,x4=>if x4<x0 then (aiz.j1 k x0 x3 x4 (decide (x0<=20))) else (aiz.j1 k x0 x3 x4 false)
def aiz.j1:Nat->Int->List (List Int)->Int->Bool->Option ((List (List Int)))
 |0,_,_,_,_=>none
 |k+1,x0,x3,x4,x14=>if x14=true then (aiz.l1 k x0 x3 x4 ([] :List Int) 0) else (some x3)
def aiz.l1:Nat->Int->List (List Int)->Int->List Int->Int->Option ((List (List Int)))
 |0,_,_,_,_,_=>none
 |k+1,x0,x3,x4,x5,x6=>if x6<x0 then (if x4=x6 then (if x5.length<17592186044416 then (aiz.l1 k x0 x3 x4 (x5++ [1]) (wrap64 (x6+1))) else (none)) else (if x5.length<17592186044416 then (aiz.l1 k x0 x3 x4 (x5++ [0]) (wrap64 (x6+1))) else (none))) else (if x3.length<5864062014805 then (aiz.l0 k x0 (x3++ [x5]) (wrap64 (x4+1))) else (none))
end
def aiz.f (k:Nat) (a0:Int):Option ((List (List Int))):=aiz.l0 k a0 ([] :List (List Int)) 0
theorem aiz.aXz: ∀k,(∀y0 y1 y2,LeO (aiz.l0 k y0 y1 y2) (aiz.l0 (k+1) y0 y1 y2))/\(∀y0 y1 y2 y3,LeO (aiz.j1 k y0 y1 y2 y3) (aiz.j1 (k+1) y0 y1 y2 y3))/\(∀y0 y1 y2 y3 y4,LeO (aiz.l1 k y0 y1 y2 y3 y4) (aiz.l1 (k+1) y0 y1 y2 y3 y4))
 |0=>⟨fun _ _ _ r h=>by simp [aiz.l0] at h,fun _ _ _ _ r h=>by simp [aiz.j1] at h,fun _ _ _ _ _ r h=>by simp [aiz.l1] at h⟩
 |k+1=>by
  obtain ⟨ih0,ih1,ih2⟩:=aiz.aXz k;refine ⟨?_,?_,?_⟩
  ·intro y0 y1 y2;unfold aiz.l0
   repeat' with_reducible first|apply ih0|apply ih1|apply ih2|apply Yg|apply Yh|apply Yi|refine Yj ?_ fun _=>?_
  ·intro y0 y1 y2 y3;unfold aiz.j1
   repeat' with_reducible first|apply ih0|apply ih1|apply ih2|apply Yg|apply Yh|apply Yi|refine Yj ?_ fun _=>?_
  ·intro y0 y1 y2 y3 y4;unfold aiz.l1
   repeat' with_reducible first|apply ih0|apply ih1|apply ih2|apply Yg|apply Yh|apply Yi|refine Yj ?_ fun _=>?_
theorem aiz.mono: ∀a0 k,LeO (aiz.f k a0) (aiz.f (k+1) a0):=by
 intro a0 k;obtain ⟨ih0,ih1,ih2⟩:=aiz.aXz k;unfold aiz.f
 repeat' with_reducible first|apply ih0|apply ih1|apply ih2|apply Yg|apply Yh|apply Yi|refine Yj ?_ fun _=>?_
theorem aiz.calls (k : Nat) (a0 : Int) (r : List (List Int)) (w : World) (h : aiz.f k a0 = some r) :
  Calls Tryz.prog 62 #[.int .i64 a0] w fun e w'=> ∃v0_:Value,e= .returned (v0_)/\Kd.S (Kd.slice 3 (Kd.int .i64)) 57 w' w.heap.size (fun _=>True) v0_ r/\Below w.heap.size w w':=by
 have HB:=Za (Zw w.heap.size w);have H:=h;clear h;unfold aiz.f at H;have H':=Za H;clear H;go_enter Tryz.func62,Tryz.ntmps62;go_wp2
 go_loopg [3,4] k (fun kq v3 v4 w'=> ∃(x3_1:List (List Int)) (x4_1:Int),v4= .int .i64 x4_1/\Aside0 (aiz.l0 kq a0 x3_1 x4_1=some r)/\Aside0 (kq<=k)/\Aside0 (Kd.S (Kd.slice 3 (Kd.int .i64)) 57 w' w.heap.size (fun _=>True) v3 x3_1)/\Aside0 (Below w.heap.size w w'))
 case atStart=>exact ⟨(([] :List (List Int))),(0),sd_,H',⟨Zv _⟩,⟨nl_⟩,⟨bl_⟩⟩
 clear H';obtain ⟨x3_1,x4_1,rfl,HA,HK1,HO_3,HB⟩:=hrel;rcases gk with _|k1
 ·exact Yf HA.out (by simp [aiz.l0])
 have H:=HA.out;clear HA;simp only [aiz.l0] at H;have HC2:=Za H;clear H
 go_upto_region 3 with (fail)
 go_cut [14] (fun v14 wc=> ∃(kq:Nat) (x14_1:Bool),v14= .bool x14_1/\Aside0 (aiz.j1 kq a0 x3_1 x4_1 x14_1=some r)/\Aside0 (kq<=k1)/\Aside0 (Kd.S (Kd.slice 3 (Kd.int .i64)) 57 wc w.heap.size (fun _=>True) u3 x3_1)/\Aside0 (Below w.heap.size w wc))
 case first=>
  have H:=HC2.out;clear HC2;by_cases c3:x4_1<a0
  ·rw [Ya c3] at H;have c3b0:=Zd c3;clear c3
   (first|rw [c3b0] |(simp only [i64_w,i32_w];rw [c3b0])|skip)
   have H':=Za H;clear H;go_wp2
   go_meet
   case rel=>exact ⟨_,(decide (a0<=20)),sd_,H',⟨by have:=HK1.out;first|omega|exact Zv _⟩,⟨xd_ HO_3.out⟩,⟨bl_⟩⟩
  ·rw [Yb c3] at H;have c3b0:=Ze c3;clear c3
   (first|rw [c3b0] |(simp only [i64_w,i32_w];rw [c3b0])|skip)
   have H':=Za H;clear H;go_wp2
   go_meet
   case rel=>exact ⟨_,(false),sd_,H',⟨by have:=HK1.out;first|omega|exact Zv _⟩,⟨xd_ HO_3.out⟩,⟨bl_⟩⟩
 case rest=>
  clear HC2;obtain ⟨kq,x14_1,rfl,HA,HJ1,HO_3,HB⟩:=hcut;rcases kq with _|kj1
  ·exact Yf HA.out (by simp [aiz.j1])
  have H:=HA.out;clear HA;simp only [aiz.j1] at H;by_cases c4:x14_1=true
  rotate_left
  ·replace c4:=Zr c4;subst c4;rw [Yb (show¬(false=true) by decide)] at H;obtain rfl:=Zn H;go_wp2;go_ret;exact ⟨_,er_,xd_ HO_3.out,bl_⟩
  subst c4;rw [Ya rfl] at H;have H':=Za H;clear H;go_wp2
  go_loopg [5,6] kj1 (fun kq v5 v6 w'=> ∃(x5_3:List Int) (x6_3:Int),v6= .int .i64 x6_3/\Aside0 (aiz.l1 kq a0 x3_1 x4_1 x5_3 x6_3=some r)/\Aside0 (kq<=kj1)/\Aside0 (Kd.S (Kd.slice 3 (Kd.int .i64)) 57 w' w.heap.size (fun k_=>some k_≠(v5:Value).ownBlock) u3 x3_1)/\Aside0 (Kd.R (Kd.int .i64) 3 w' w.heap.size (fun _=>True) v5 x5_3)/\Aside0 (Below w.heap.size w w'))
  case atStart=>exact ⟨(([] :List Int)),(0),sd_,H',⟨Zv _⟩,⟨sm_ HO_3⟩,⟨nl_⟩,⟨bl_⟩⟩
  clear H';obtain ⟨x5_3,x6_3,rfl,HA,HK3,HO_3,HO_5,HB⟩:=hrel;rcases gk with _|k3
  ·exact Yf HA.out (by simp [aiz.l1])
  have H:=HA.out;clear HA;simp only [aiz.l1] at H;by_cases c5:x6_3<a0
  rotate_left
  ·rw [Yb c5] at H;have c5b0:=Ze c5;clear c5;by_cases c11:x3_1.length<5864062014805
   rotate_left
   ·rw [Yb c11] at H;exact Yf H (by simp)
   rw [Ya c11] at H;have LMc11:=Za c11;clear c11;obtain ⟨y442,hy442⟩: ∃y_:List (List Int),y_=(x3_1++ [x5_3]):=⟨_,rfl⟩
   first|rw [Zl, <-hy442] at H|rw [<-hy442] at H
   (try dsimp only at H)
   have Ny442:=Za hy442;clear hy442;have H':=Za H;clear H;obtain ⟨Ao13,co13,eo13⟩:=Kd.a3z HO_5.out;subst eo13
   go_wp2_with (first|((with_reducible refine aoz (b:= .append) (xs:= #[.tmp 29, .tmp 31]) rfl ?_);at_builtin;refine Kd.b2z (Kd.slice 3 (Kd.int .i64)) (w0:=w) w.heap.size rfl (.tmp 29) (.tmp 31) 68 57 (.slice none 0 0) 24 rfl Tryz.underlying68 info57 rfl (by decide) (by omega) u3 x3_1 x5_3 [.slice Ao13 x5_3.length co13] (fun _=>True) (fun k_=>some k_=(.slice Ao13 x5_3.length co13:Value).ownBlock) rfl rfl ?aP (fun k_ hk_=>((Kd.aSz (ok':=fun k_=>((fun _=>True)) k_/\some k_≠(u3:Value).ownBlock) (Kd.bxz (HO_5.out) (Kd.bQz HO_3.out) (by decide)) (fun k_ hk=>⟨trivial,hk.2⟩))).1 k_ hk_.symm) ?aF ?aO ?aB ?aS ?aL ?_;(case aP=>exact Kd.M_row (Kd.aSz (Kd.cgz rfl (Kd.aSz (ok':=fun k_=>((fun _=>True)) k_/\some k_≠(u3:Value).ownBlock) (Kd.bxz (HO_5.out) (Kd.bQz HO_3.out) (by decide)) (fun k_ hk=>⟨trivial,hk.2⟩))) (fun _ h_=>h_)));(case aB=>exact bl_);(case aF=>exact (fun _ _=>trivial));(case aO=>exact (sm_ HO_3));(case aS=>exact (adz bl_));(case aL=>have:=LMc11.out;omega);intro v443 w12 ho hb hg hat;rw [<-Ny442.out] at ho;have n_:=Zb (Za (hb)) (Za (ho));clear HB HO_3 HO_5;obtain ⟨HB,HO444⟩:=n_;clear ho hb hg hat))
   go_roundg k3
   case measure=>have:=HK1.out;have:=HJ1.out;have:=HK3.out;omega
   case rel=>exact ⟨(y442),(wrap64 (x4_1+1)),sd_,H',⟨by have:=HK1.out;have:=HJ1.out;have:=HK3.out;omega⟩,⟨xd_ HO444.out⟩,⟨bl_⟩⟩
  rw [Ya c5] at H;have c5b0:=Zd c5;clear c5;by_cases c6:x4_1=x6_3
  rotate_left
  ·rw [Yb c6] at H;have c6b0:(x4_1==x6_3)=false:=Zq c6;have c6b1:(x4_1 !=x6_3)=true:=Yd c6;by_cases c9:x5_3.length<17592186044416
   rotate_left
   ·rw [Yb c9] at H;exact Yf H (by simp)
   rw [Ya c9] at H;have LMc9:=Za c9;clear c9;obtain ⟨y439,hy439⟩: ∃y_:List Int,y_=(x5_3++ [0]):=⟨_,rfl⟩
   first|rw [Zl, <-hy439] at H|rw [<-hy439] at H
   (try dsimp only at H)
   have Ny439:=Za hy439;clear hy439;have H':=Za H;clear H
   go_wp2_with (first|((with_reducible refine aoz (b:= .append) (xs:= #[.tmp 25, .tmp 27]) rfl ?_);at_builtin;refine Kd.bmz (Kd.int .i64) (w0:=w) w.heap.size rfl (.tmp 25) (.tmp 27) 57 3 (.int .i64 0) 8 rfl Tryz.underlying57 info3 rfl (by decide) (by omega) u5 x5_3 0 [.int .i64 0] (fun _=>True) (fun _=>False) rfl rfl ?aP (fun _ hk=>hk.elim) ?aF ?aO ?aB ?aS ?aL ?_;(case aP=>exact rfl);(case aB=>exact bl_);(case aF=>exact (fun _ _=>trivial));(case aO=>exact (xd_ HO_5.out));(case aS=>exact (adz bl_));(case aL=>have:=LMc9.out;omega);intro v440 w10 ho hb hg hat;rw [<-Ny439.out] at ho;have n_:=Zb (Za (Kd.cSz (ok:=(fun _=>True)) (sm_ HO_3) hg hat)) (Zb (Za (hb)) (Za (ho)));clear HO_3 HB HO_5;obtain ⟨HO_3,HB,HO441⟩:=n_;clear ho hb hg hat))
   go_roundg k3
   case measure=>have:=HK1.out;have:=HJ1.out;have:=HK3.out;omega
   case rel=>exact ⟨(y439),(wrap64 (x6_3+1)),sd_,H',⟨by have:=HK1.out;have:=HJ1.out;have:=HK3.out;omega⟩,⟨sm_ HO_3⟩,⟨xd_ HO441.out⟩,⟨bl_⟩⟩
  rw [Ya c6] at H;have c6b0:(x4_1==x6_3)=true:=Ye c6;have c6b1:(x4_1 !=x6_3)=false:=Yc c6;clear c6;by_cases c7:x5_3.length<17592186044416
  rotate_left
  ·rw [Yb c7] at H;exact Yf H (by simp)
  rw [Ya c7] at H;have LMc7:=Za c7;clear c7;obtain ⟨y436,hy436⟩: ∃y_:List Int,y_=(x5_3++ [1]):=⟨_,rfl⟩
  first|rw [Zl, <-hy436] at H|rw [<-hy436] at H
  (try dsimp only at H)
  have Ny436:=Za hy436;clear hy436;have H':=Za H;clear H
  go_wp2_with (first|((with_reducible refine aoz (b:= .append) (xs:= #[.tmp 25, .tmp 27]) rfl ?_);at_builtin;refine Kd.bmz (Kd.int .i64) (w0:=w) w.heap.size rfl (.tmp 25) (.tmp 27) 57 3 (.int .i64 0) 8 rfl Tryz.underlying57 info3 rfl (by decide) (by omega) u5 x5_3 1 [.int .i64 1] (fun _=>True) (fun _=>False) rfl rfl ?aP (fun _ hk=>hk.elim) ?aF ?aO ?aB ?aS ?aL ?_;(case aP=>exact rfl);(case aB=>exact bl_);(case aF=>exact (fun _ _=>trivial));(case aO=>exact (xd_ HO_5.out));(case aS=>exact (adz bl_));(case aL=>have:=LMc7.out;omega);intro v437 w8 ho hb hg hat;rw [<-Ny436.out] at ho;have n_:=Zb (Za (Kd.cSz (ok:=(fun _=>True)) (sm_ HO_3) hg hat)) (Zb (Za (hb)) (Za (ho)));clear HO_3 HB HO_5;obtain ⟨HO_3,HB,HO438⟩:=n_;clear ho hb hg hat))
  go_roundg k3
  case measure=>have:=HK1.out;have:=HJ1.out;have:=HK3.out;omega
  case rel=>exact ⟨(y436),(wrap64 (x6_3+1)),sd_,H',⟨by have:=HK1.out;have:=HJ1.out;have:=HK3.out;omega⟩,⟨sm_ HO_3⟩,⟨xd_ HO438.out⟩,⟨bl_⟩⟩
def awz.l0:Nat->Int->Int->Int->Option (Int)
 |0,_,_,_=>none
 |k+1,x0,x3,x4=>if x4<x0 then (awz.l0 k x0 (wrap64 (2*x3)) (wrap64 (x4+1))) else (some x3)
def awz.f (k:Nat) (a0:Int):Option (Int):=awz.l0 k a0 1 0
theorem awz.aXz: ∀k,(∀y0 y1 y2,LeO (awz.l0 k y0 y1 y2) (awz.l0 (k+1) y0 y1 y2))
 |0=>fun _ _ _ r h=>by simp [awz.l0] at h
 |k+1=>by
  have ih0:=awz.aXz k
  ·intro y0 y1 y2;unfold awz.l0
   repeat' with_reducible first|apply ih0|apply Yg|apply Yh|apply Yi|refine Yj ?_ fun _=>?_
theorem awz.mono: ∀a0 k,LeO (awz.f k a0) (awz.f (k+1) a0):=by
 intro a0 k;have ih0:=awz.aXz k;unfold awz.f
 repeat' with_reducible first|apply ih0|apply Yg|apply Yh|apply Yi|refine Yj ?_ fun _=>?_
theorem awz.calls (k : Nat) (a0 : Int) (r : Int) (w : World) (h : awz.f k a0 = some r) :
  Calls Tryz.prog 156 #[.int .i64 a0] w fun e w'=>e= .returned (.int .i64 r)/\Drawn0 w w':=by
 have H:=h;clear h;unfold awz.f at H;have H':=Za H;clear H;go_enter Tryz.func156,Tryz.ntmps156;go_wp2
 go_loopg [3,4] k (fun kq v3 v4 w'=> ∃(x3_1:Int) (x4_1:Int),v3= .int .i64 x3_1/\v4= .int .i64 x4_1/\Aside0 (awz.l0 kq a0 x3_1 x4_1=some r)/\Aside0 (kq<=k)/\Drawn0 w w')
 case atStart=>exact ⟨(1),(0),sd_,sd_,H',⟨Zv _⟩,dn_⟩
 clear H';obtain ⟨x3_1,x4_1,rfl,rfl,HA,HK1,⟨m1,rfl⟩⟩:=hrel;rcases gk with _|k1
 ·exact Yf HA.out (by simp [awz.l0])
 have H:=HA.out;clear HA;simp only [awz.l0] at H;by_cases c2:x4_1<a0
 ·rw [Ya c2] at H;have c2b0:=Zd c2;clear c2;have H':=Za H;clear H;go_wp2
  go_roundg k1
  case measure=>have:=HK1.out;omega
  case rel=>exact ⟨(wrap64 (2*x3_1)),(wrap64 (x4_1+1)),sd_,sd_,H',⟨by have:=HK1.out;omega⟩,dn_⟩
 ·rw [Yb c2] at H;have c2b0:=Ze c2;clear c2;obtain rfl:=Zn H;go_wp2;go_ret;exact ⟨sd_,dn_⟩
def aUz.l0:Nat->List (List Int)->Int->Int->Option (Int)
 |0,_,_,_=>none
 |k+1,x0,x2,x7=>if x7<(x0.length:Int) then (if 0<=x7 then (if 0<=x2 then (if x2<((rd_L4 x0 x7).length:Int) then (if (rd (rd_L4 x0 x7) x2)=0 then (aUz.l0 k x0 x2 (wrap64 (x7+1))) else (some x7)) else (none)) else (none)) else (none)) else (some (-1))
def aUz.f (k:Nat) (l0:List (List Int)) (a1:Int) (a2:Int):Option (Int):=aUz.l0 k l0 a2 a1
theorem aUz.aXz: ∀k,(∀y0 y1 y2,LeO (aUz.l0 k y0 y1 y2) (aUz.l0 (k+1) y0 y1 y2))
 |0=>fun _ _ _ r h=>by simp [aUz.l0] at h
 |k+1=>by
  have ih0:=aUz.aXz k
  ·intro y0 y1 y2;unfold aUz.l0
   repeat' with_reducible first|apply ih0|apply Yg|apply Yh|apply Yi|refine Yj ?_ fun _=>?_
theorem aUz.mono: ∀a0 a1 a2 k,LeO (aUz.f k a0 a1 a2) (aUz.f (k+1) a0 a1 a2):=by
 intro a0 a1 a2 k;have ih0:=aUz.aXz k;unfold aUz.f
 repeat' with_reducible first|apply ih0|apply Yg|apply Yh|apply Yi|refine Yj ?_ fun _=>?_
theorem aUz.calls (k : Nat) (A0 : Option Addr) (c0 : Nat) (l0 : List (List Int)) (a1 : Int) (a2 : Int) (r : Int) (w : World) (hr0 : Kd.C (Kd.slice 3 (Kd.int .i64)) w A0 l0.length l0) (hc0 : l0.length <= c0) (h : aUz.f k l0 a1 a2 = some r) :
  Calls Tryz.prog 145 #[.slice A0 l0.length c0, .int .i64 a1, .int .i64 a2] w fun e w'=>e= .returned (.int .i64 r)/\Drawn0 w w':=by
 have HR0:=Za hr0;have HC0:=Za hc0;clear hr0 hc0;have H:=h;clear h;unfold aUz.f at H;have H':=Za H;clear H;go_enter Tryz.func145,Tryz.ntmps145;go_wp2
 go_loopg [7] k (fun kq v7 w'=> ∃(x7_1:Int),v7= .int .i64 x7_1/\Aside0 (aUz.l0 kq l0 a2 x7_1=some r)/\Aside0 (kq<=k)/\Drawn0 w w')
 case atStart=>exact ⟨(a1),sd_,H',⟨Zv _⟩,dn_⟩
 clear H';obtain ⟨x7_1,rfl,HA,HK1,⟨m1,rfl⟩⟩:=hrel;rcases gk with _|k1
 ·exact Yf HA.out (by simp [aUz.l0])
 have H:=HA.out;clear HA;simp only [aUz.l0] at H;by_cases c4:x7_1<(l0.length:Int)
 rotate_left
 ·rw [Yb c4] at H;have c4b0:=Ze c4;clear c4;obtain rfl:=Zn H;go_wp2;go_ret;exact ⟨sd_,dn_⟩
 rw [Ya c4] at H;have c4b0:=Zd c4;clear c4;by_cases c5:0<=x7_1
 rotate_left
 ·rw [Yb c5] at H;exact Yf H (by simp)
 rw [Ya c5] at H;have c5b0:=Zd c5;clear c5;by_cases c6:0<=a2
 rotate_left
 ·rw [Yb c6] at H;exact Yf H (by simp)
 rw [Ya c6] at H;have c6b0:=Zd c6;clear c6;by_cases c7:a2<((rd_L4 l0 x7_1).length:Int)
 rotate_left
 ·rw [Yb c7] at H;exact Yf H (by simp)
 rw [Ya c7] at H;have c7b0:=Zd c7;clear c7;by_cases c8:(rd (rd_L4 l0 x7_1) a2)=0
 rotate_left
 ·rw [Yb c8] at H;have c8b0:((rd (rd_L4 l0 x7_1) a2)==0)=false:=Zq c8;have c8b1:((rd (rd_L4 l0 x7_1) a2) !=0)=true:=Yd c8;obtain rfl:=Zn H;have p453:0<=(x7_1:Int):=Zc as_;have q453:x7_1<(l0.length:Int):=Zc as_;obtain ⟨_,A453_0,c453_0,e453,hx453_0,hl453_0,hi453_0⟩:=at_L4 HR0.out x7_1 p453 q453;cases e453
  have HR453_0:=Za hi453_0;have HC453_0:=Za hl453_0;clear hi453_0 hl453_0;replace p453:=Zz p453;replace q453:=Zz q453;have p454:0<=(a2:Int):=Zc as_;have q454:a2<((rd_L4 l0 x7_1).length:Int):=Zc as_;obtain ⟨_,e454,hx454_0⟩:=Kd.boz HR453_0.out a2 p454 q454;cases e454
  replace p454:=Zz p454;replace q454:=Zz q454;go_wp2;go_ret;exact ⟨sd_,dn_⟩
 rw [Ya c8] at H;have c8b0:((rd (rd_L4 l0 x7_1) a2)==0)=true:=Ye c8;have c8b1:((rd (rd_L4 l0 x7_1) a2) !=0)=false:=Yc c8;clear c8;have H':=Za H;clear H;have p453:0<=(x7_1:Int):=Zc as_;have q453:x7_1<(l0.length:Int):=Zc as_;obtain ⟨_,A453_0,c453_0,e453,hx453_0,hl453_0,hi453_0⟩:=at_L4 HR0.out x7_1 p453 q453;cases e453
 have HR453_0:=Za hi453_0;have HC453_0:=Za hl453_0;clear hi453_0 hl453_0;replace p453:=Zz p453;replace q453:=Zz q453;have p454:0<=(a2:Int):=Zc as_;have q454:a2<((rd_L4 l0 x7_1).length:Int):=Zc as_;obtain ⟨_,e454,hx454_0⟩:=Kd.boz HR453_0.out a2 p454 q454;cases e454
 replace p454:=Zz p454;replace q454:=Zz q454;go_wp2
 go_roundg k1
 case measure=>have:=HK1.out;omega
 case rel=>exact ⟨(wrap64 (x7_1+1)),sd_,H',⟨by have:=HK1.out;omega⟩,dn_⟩
def auz.l0:Nat->Int->Int->Option (Int)
 |0,_,_=>none
 |k+1,x0,x3=>if x0>0 then (auz.l0 k (IntKind.u64.wrap (Int.tdiv x0 2)) (wrap64 (x3+1))) else (some x3)
def auz.f (k:Nat) (a0:Int):Option (Int):=auz.l0 k a0 (-1)
theorem auz.aXz: ∀k,(∀y0 y1,LeO (auz.l0 k y0 y1) (auz.l0 (k+1) y0 y1))
 |0=>fun _ _ r h=>by simp [auz.l0] at h
 |k+1=>by
  have ih0:=auz.aXz k
  ·intro y0 y1;unfold auz.l0
   repeat' with_reducible first|apply ih0|apply Yg|apply Yh|apply Yi|refine Yj ?_ fun _=>?_
theorem auz.mono: ∀a0 k,LeO (auz.f k a0) (auz.f (k+1) a0):=by
 intro a0 k;have ih0:=auz.aXz k;unfold auz.f
 repeat' with_reducible first|apply ih0|apply Yg|apply Yh|apply Yi|refine Yj ?_ fun _=>?_
theorem auz.calls (k : Nat) (a0 : Int) (r : Int) (w : World) (h : auz.f k a0 = some r) :
  Calls Tryz.prog 194 #[.int .u64 a0] w fun e w'=>e= .returned (.int .i64 r)/\Drawn0 w w':=by
 have H:=h;clear h;unfold auz.f at H;have H':=Za H;clear H;go_enter Tryz.func194,Tryz.ntmps194;go_wp2
 go_loopg [0,3] k (fun kq v0 v3 w'=> ∃(x0_1:Int) (x3_1:Int),v0= .int .u64 x0_1/\v3= .int .i64 x3_1/\Aside0 (auz.l0 kq x0_1 x3_1=some r)/\Aside0 (kq<=k)/\Drawn0 w w')
 case atStart=>exact ⟨(a0),((-1)),sd_,sd_,H',⟨Zv _⟩,dn_⟩
 clear H';obtain ⟨x0_1,x3_1,rfl,rfl,HA,HK1,⟨m1,rfl⟩⟩:=hrel;rcases gk with _|k1
 ·exact Yf HA.out (by simp [auz.l0])
 have H:=HA.out;clear HA;simp only [auz.l0] at H;by_cases c2:x0_1>0
 ·rw [Ya c2] at H;have c2b0:decide (0<x0_1)=true:=Zd c2;clear c2;have H':=Za H;clear H;go_wp2
  go_roundg k1
  case measure=>have:=HK1.out;omega
  case rel=>exact ⟨(IntKind.u64.wrap (Int.tdiv x0_1 2)),(wrap64 (x3_1+1)),sd_,sd_,H',⟨by have:=HK1.out;omega⟩,dn_⟩
 ·rw [Yb c2] at H;have c2b0:decide (0<x0_1)=false:=Ze c2;clear c2;obtain rfl:=Zn H;go_wp2;go_ret;exact ⟨sd_,dn_⟩
def aFz.l0:Nat->Int->Int->Int->Option (Int)
 |0,_,_,_=>none
 |k+1,x0,x3,x4=>if x4<x0 then (aFz.l0 k x0 (IntKind.u64.wrap (2*x3)) (wrap64 (x4+1))) else (some x3)
def aFz.f (k:Nat) (a0:Int):Option (Int):=aFz.l0 k a0 1 0
theorem aFz.aXz: ∀k,(∀y0 y1 y2,LeO (aFz.l0 k y0 y1 y2) (aFz.l0 (k+1) y0 y1 y2))
 |0=>fun _ _ _ r h=>by simp [aFz.l0] at h
 |k+1=>by
  have ih0:=aFz.aXz k
  ·intro y0 y1 y2;unfold aFz.l0
   repeat' with_reducible first|apply ih0|apply Yg|apply Yh|apply Yi|refine Yj ?_ fun _=>?_
theorem aFz.mono: ∀a0 k,LeO (aFz.f k a0) (aFz.f (k+1) a0):=by
 intro a0 k;have ih0:=aFz.aXz k;unfold aFz.f
 repeat' with_reducible first|apply ih0|apply Yg|apply Yh|apply Yi|refine Yj ?_ fun _=>?_
theorem aFz.calls (k : Nat) (a0 : Int) (r : Int) (w : World) (h : aFz.f k a0 = some r) :
  Calls Tryz.prog 195 #[.int .i64 a0] w fun e w'=>e= .returned (.int .u64 r)/\Drawn0 w w':=by
 have H:=h;clear h;unfold aFz.f at H;have H':=Za H;clear H;go_enter Tryz.func195,Tryz.ntmps195;go_wp2
 go_loopg [3,4] k (fun kq v3 v4 w'=> ∃(x3_1:Int) (x4_1:Int),v3= .int .u64 x3_1/\v4= .int .i64 x4_1/\Aside0 (aFz.l0 kq a0 x3_1 x4_1=some r)/\Aside0 (kq<=k)/\Drawn0 w w')
 case atStart=>exact ⟨(1),(0),sd_,sd_,H',⟨Zv _⟩,dn_⟩
 clear H';obtain ⟨x3_1,x4_1,rfl,rfl,HA,HK1,⟨m1,rfl⟩⟩:=hrel;rcases gk with _|k1
 ·exact Yf HA.out (by simp [aFz.l0])
 have H:=HA.out;clear HA;simp only [aFz.l0] at H;by_cases c2:x4_1<a0
 ·rw [Ya c2] at H;have c2b0:=Zd c2;clear c2;have H':=Za H;clear H;go_wp2
  go_roundg k1
  case measure=>have:=HK1.out;omega
  case rel=>exact ⟨(IntKind.u64.wrap (2*x3_1)),(wrap64 (x4_1+1)),sd_,sd_,H',⟨by have:=HK1.out;omega⟩,dn_⟩
 ·rw [Yb c2] at H;have c2b0:=Ze c2;clear c2;obtain rfl:=Zn H;go_wp2;go_ret;exact ⟨sd_,dn_⟩
def axz.l0:Nat->Int->Int->Int->Option (Int)
 |0,_,_,_=>none
 |k+1,x0,x1,x5=>(auz.f k x0).bind fun t456=>(if t456>=x5 then ((auz.f k x0).bind fun t457=>((aFz.f k (wrap64 (t457 - x5))).bind fun t458=>(axz.l0 k (Go.bits .xor .u64 x0 (IntKind.u64.wrap ((IntKind.u64.wrap (x1))*t458))) x1 x5))) else (some ((x0) % 4294967296)))
def axz.f (k:Nat) (a0:Int) (a1:Int):Option (Int):=if a1=0 then (some 0) else ((auz.f k (IntKind.u64.wrap (a1))).bind fun t455=>(axz.l0 k a0 a1 t455))
theorem axz.aXz: ∀k,(∀y0 y1 y2,LeO (axz.l0 k y0 y1 y2) (axz.l0 (k+1) y0 y1 y2))
 |0=>fun _ _ _ r h=>by simp [axz.l0] at h
 |k+1=>by
  have ih0:=axz.aXz k
  ·intro y0 y1 y2;unfold axz.l0
   repeat' with_reducible first|apply ih0|apply auz.mono|apply aFz.mono|apply Yg|apply Yh|apply Yi|refine Yj ?_ fun _=>?_
theorem axz.mono: ∀a0 a1 k,LeO (axz.f k a0 a1) (axz.f (k+1) a0 a1):=by
 intro a0 a1 k;have ih0:=axz.aXz k;unfold axz.f
 repeat' with_reducible first|apply ih0|apply auz.mono|apply aFz.mono|apply Yg|apply Yh|apply Yi|refine Yj ?_ fun _=>?_
theorem axz.calls (k : Nat) (a0 : Int) (a1 : Int) (r : Int) (w : World) (h : axz.f k a0 a1 = some r) :
  Calls Tryz.prog 180 #[.int .u64 a0, .int .u32 a1] w fun e w'=>e= .returned (.int .u32 r)/\Drawn0 w w':=by
 have H:=h;clear h;unfold axz.f at H;by_cases c3:a1=0
 ·rw [Ya c3] at H;have c3b0:(a1==0)=true:=Ye c3;have c3b1:(a1 !=0)=false:=Yc c3;clear c3;obtain rfl:=Zn H;go_enter Tryz.func180,Tryz.ntmps180;go_wp2;go_ret;exact ⟨sd_,dn_⟩
 ·rw [Yb c3] at H;have c3b0:(a1==0)=false:=Zq c3;have c3b1:(a1 !=0)=true:=Yd c3;obtain ⟨t455,A4,H⟩:=ob_ H
  (try dsimp only at H)
  have H':=Za H;clear H;go_enter Tryz.func180,Tryz.ntmps180
  go_wp2_with (first|((with_reducible refine aaz (f:=194) rfl ?_);refine gl_ (some 10) Tryz.func194 #[.int .u64 (IntKind.u64.wrap (a1))] ?_;(with_reducible refine (auz.calls k (IntKind.u64.wrap (a1)) t455 _ A4.out).mono ?_);rintro e w' ⟨rfl,⟨nd,rfl⟩⟩;refine ⟨_,rfl,?_⟩))
  go_loopg [0] k (fun kq v0 w'=> ∃(x0_1:Int),v0= .int .u64 x0_1/\Aside0 (axz.l0 kq x0_1 a1 t455=some r)/\Aside0 (kq<=k)/\Drawn0 w w')
  case atStart=>exact ⟨(a0),sd_,H',⟨Zv _⟩,dn_⟩
  clear H';clear c3 c3b0 c3b1;obtain ⟨x0_1,rfl,HA,HK1,⟨m1,rfl⟩⟩:=hrel;rcases gk with _|k1
  ·exact Yf HA.out (by simp [axz.l0])
  have H:=HA.out;clear HA;simp only [axz.l0] at H;obtain ⟨t456,A5,H⟩:=ob_ H
  (try dsimp only at H)
  by_cases c6:t456>=t455
  rotate_left
  ·rw [Yb c6] at H;have c6b0:decide (t455<=t456)=false:=Ze c6;clear c6;obtain rfl:=Zn H
   go_wp2_with (first|((with_reducible refine aaz (f:=194) rfl ?_);refine gl_ (some 12) Tryz.func194 #[.int .u64 x0_1] ?_;(with_reducible refine (auz.calls k1 x0_1 t456 _ A5.out).mono ?_);rintro e w' ⟨rfl,⟨nd,rfl⟩⟩;refine ⟨_,rfl,?_⟩))
   go_ret;exact ⟨sd_,dn_⟩
  rw [Ya c6] at H;have c6b0:decide (t455<=t456)=true:=Zd c6;clear c6;obtain ⟨t457,A7,H⟩:=ob_ H
  (try dsimp only at H)
  obtain ⟨t458,A8,H⟩:=ob_ H
  (try dsimp only at H)
  have H':=Za H;clear H
  go_wp2_with (first|((with_reducible refine aaz (f:=194) rfl ?_);refine gl_ (some 12) Tryz.func194 #[.int .u64 x0_1] ?_;(with_reducible refine (auz.calls k1 x0_1 t456 _ A5.out).mono ?_);rintro e w' ⟨rfl,⟨nd,rfl⟩⟩;refine ⟨_,rfl,?_⟩)|((with_reducible refine aaz (f:=194) rfl ?_);refine gl_ (some 19) Tryz.func194 #[.int .u64 x0_1] ?_;(with_reducible refine (auz.calls k1 x0_1 t457 _ A7.out).mono ?_);rintro e w' ⟨rfl,⟨nd,rfl⟩⟩;refine ⟨_,rfl,?_⟩)|((with_reducible refine aaz (f:=195) rfl ?_);refine gl_ (some 22) Tryz.func195 #[.int .i64 (wrap64 (t457 - t455))] ?_;(with_reducible refine (aFz.calls k1 (wrap64 (t457 - t455)) t458 _ A8.out).mono ?_);rintro e w' ⟨rfl,⟨nd,rfl⟩⟩;refine ⟨_,rfl,?_⟩))
  go_roundg k1
  case measure=>have:=HK1.out;omega
  case rel=>exact ⟨(Go.bits .xor .u64 x0_1 (IntKind.u64.wrap ((IntKind.u64.wrap (a1))*t458))),sd_,H',⟨by have:=HK1.out;omega⟩,dn_⟩
end Go.Proofs.Xc
end
