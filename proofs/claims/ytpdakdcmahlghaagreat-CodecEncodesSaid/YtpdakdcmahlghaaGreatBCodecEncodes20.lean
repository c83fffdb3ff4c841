-- Joined texts of this work (wip/tools/bundle.py).
import Derived.Lib.SlBytesConst
import Derived.Test.YtpdakdcmahlghaaGreatBCodecEncodes19
set_option maxHeartbeats 8000000
set_option maxRecDepth 100000
set_option linter.unusedVariables false
set_option linter.unusedSimpArgs false
section
namespace Go.Proofs.Xc
open Go.RowKit Go.Proofs.Pw Go.Proofs.Pl Go.Proofs.Pm
attribute [local go_sem] baz bbz bmz bnz a2z a3z bcz bdz
def cbz.f (a0_0:Int) (a0_1:Int) (a0_2:Int) (l1:List Int):Option (List Int):=(bsz.f a0_0 a0_1 a0_2).bind fun t819=>(if t819=98 then ((some (([(Int.tmod (wrap64 ((l1.length:Int) / 16777216)) 256) % 256,(Int.tmod (wrap64 ((l1.length:Int) / 65536)) 256) % 256,(Int.tmod (wrap64 ((l1.length:Int) / 256)) 256) % 256,(l1.length:Int) % 256] :List Int):List Int)).bind fun y820=>(if ([] :List Int).length+y820.length<140737488355328 then ((some (([] :List Int)++y820:List Int)).bind fun y823=>(if y823.length+l1.length<140737488355328 then (some (y823++l1)) else (none))) else (none))) else (if ([] :List Int).length+l1.length<140737488355328 then (some (([] :List Int)++l1)) else (none)))
theorem cbz.calls (a0_0 : Int) (a0_1 : Int) (a0_2 : Int) (A1 : Option Addr) (c1 : Nat) (l1 : List Int) (r : List Int) (w : World) (hr1 : Kd.C (Kd.int .u8) w A1 l1.length l1) (hc1 : l1.length <= c1) (h : cbz.f a0_0 a0_1 a0_2 l1 = some r) :
  Calls Tryz.prog 92 #[.agg #[.int .i64 a0_0, .int .i64 a0_1, .int .i64 a0_2], .slice A1 l1.length c1] w fun e w'=> ∃v0_:Value,e= .returned (v0_)/\Kd.R (Kd.int .u8) 5 w' w.heap.size (fun _=>True) v0_ r/\Below w.heap.size w w':=by
 have hu23:=Tryz.underlying23;have HR1:=Za hr1;have HC1:=Za hc1;clear hr1 hc1;have HB:=Za (Zw w.heap.size w);have H:=h;clear h;unfold cbz.f at H;obtain ⟨t819,A3,H⟩:=ob_ H
 (try dsimp only at H)
 by_cases c4:t819=98
 rotate_left
 ·rw [Yb c4] at H;have c4b0:(t819==98)=false:=Zq c4;have c4b1:(t819 !=98)=true:=Yd c4;by_cases c15:([] :List Int).length+l1.length<140737488355328
  rotate_left
  ·rw [Yb c15] at H;exact Yf H (by simp)
  rw [Ya c15] at H;have LMc15:=Za c15;clear c15;obtain ⟨y829,hy829⟩: ∃y_:List Int,y_=(([] :List Int)++l1):=⟨_,rfl⟩
  first|rw [Zl, <-hy829] at H|rw [<-hy829] at H
  (try dsimp only at H)
  have Ny829:=Za hy829;clear hy829;obtain rfl:=Zn H;go_enter Tryz.func92,Tryz.ntmps92
  go_wp2_with (first|((with_reducible refine aUz (N:=2) rfl ?_);refine bx_ 2 #[.int .i64 a0_0, .int .i64 a0_1, .int .i64 a0_2] 23 ?_;intro gb818 hg w16 hbox hb;have n_:=Zb (hs_ HB hb) (Zb (Za (hbox)) (Zb (ag_ HB gb818) (ag_ HB gb818)));clear HB;obtain ⟨HB,BK818,GW818,GE818⟩:=n_;clear hb hbox hg;obtain ⟨hcz17_0,hfz17_0,hcz17_1,hfz17_1,hcz17_2,hfz17_2⟩:=bc3_ BK818.out)|((with_reducible refine abz (f:=136) rfl ?_);refine gl_ (some 10) Tryz.func136 #[.agg #[.int .i64 a0_0, .int .i64 a0_1, .int .i64 a0_2]] ?_;(with_reducible refine (bsz.calls a0_0 a0_1 a0_2 t819 _ A3.out).mono ?_);rintro e w18 ⟨rfl,hb⟩;refine ⟨_,rfl,?_⟩;have n_:=Zb (bb_ BK818 hb) (hs_ HB hb);clear BK818 HB;obtain ⟨BK818,HB⟩:=n_;(try clear hb))|((with_reducible refine anz (b:= .append) (xs:= #[.tmp 30, .tmp 31]) rfl ?_);at_builtin;refine Kd.bVz (Kd.int .u8) (w0:=w) w.heap.size rfl (.tmp 30) (.tmp 31) 34 5 (.int .u8 0) 1 rfl Tryz.underlying34 info5 rfl (by decide) (by omega) (.slice none 0 0) ([] :List Int) l1 _ _ _ (fun _=>True) (fun _=>False) rfl rfl ?aO ?aR (fun _ _ h=>h) (fun _ h=>h.elim) ?aF ?aB ?aS ?aL ?_;(case aR=>repeat (first|exact (Kd.aMz HR1.out HB.out)|(with_reducible refine Kd.b2z ?_ _)|(with_reducible refine Kd.bzz ?_ _)|(with_reducible refine Kd.ckz ?_)));(case aB=>exact bl_);(case aF=>exact (fun _ _=>trivial));(case aO=>exact ((Kd.R_nil _ _ _ _ (fun _=>True))));(case aS=>exact (acz bl_));(case aL=>have:=LMc15.out;omega);intro v830 w19 ho hb hg hat;rw [<-Ny829.out] at ho;have n_:=Zb (Za (czz (g:=gb818) (o:= .cells #[.int .i64 a0_0, .int .i64 a0_1, .int .i64 a0_2] 23 (0,0)) bk_ hg (by simp [Value.ownBlock]))) (Zb (Za (hb)) (Za (ho)));clear BK818 HB;obtain ⟨BK818,HB,HO831⟩:=n_;clear ho hb hg hat))
  go_ret;exact ⟨_,er_,xd_ HO831.out,bl_⟩
 rw [Ya c4] at H;have c4b0:(t819==98)=true:=Ye c4;have c4b1:(t819 !=98)=false:=Yc c4;clear c4;obtain ⟨y820,hy820⟩: ∃y_:List Int,y_=(([(Int.tmod (wrap64 ((l1.length:Int) / 16777216)) 256) % 256,(Int.tmod (wrap64 ((l1.length:Int) / 65536)) 256) % 256,(Int.tmod (wrap64 ((l1.length:Int) / 256)) 256) % 256,(l1.length:Int) % 256] :List Int)):=⟨_,rfl⟩
 first|rw [Zl, <-hy820] at H|rw [<-hy820] at H
 (try dsimp only at H)
 have Ny820:=Za hy820;clear hy820;by_cases c5:([] :List Int).length+y820.length<140737488355328
 rotate_left
 ·rw [Yb c5] at H;exact Yf H (by simp)
 rw [Ya c5] at H;have LMc5:=Za c5;clear c5;obtain ⟨y823,hy823⟩: ∃y_:List Int,y_=(([] :List Int)++y820):=⟨_,rfl⟩
 first|rw [Zl, <-hy823] at H|rw [<-hy823] at H
 (try dsimp only at H)
 have Ny823:=Za hy823;clear hy823;by_cases c6:y823.length+l1.length<140737488355328
 rotate_left
 ·rw [Yb c6] at H;exact Yf H (by simp)
 rw [Ya c6] at H;have LMc6:=Za c6;clear c6;obtain ⟨y826,hy826⟩: ∃y_:List Int,y_=(y823++l1):=⟨_,rfl⟩
 first|rw [Zl, <-hy826] at H|rw [<-hy826] at H
 (try dsimp only at H)
 have Ny826:=Za hy826;clear hy826;obtain rfl:=Zn H;go_enter Tryz.func92,Tryz.ntmps92
 go_wp2_with (first|((with_reducible refine aUz (N:=2) rfl ?_);refine bx_ 2 #[.int .i64 a0_0, .int .i64 a0_1, .int .i64 a0_2] 23 ?_;intro gb818 hg w7 hbox hb;have n_:=Zb (hs_ HB hb) (Zb (Za (hbox)) (Zb (ag_ HB gb818) (ag_ HB gb818)));clear HB;obtain ⟨HB,BK818,GW818,GE818⟩:=n_;clear hb hbox hg;obtain ⟨hcz8_0,hfz8_0,hcz8_1,hfz8_1,hcz8_2,hfz8_2⟩:=bc3_ BK818.out)|((with_reducible refine abz (f:=136) rfl ?_);refine gl_ (some 10) Tryz.func136 #[.agg #[.int .i64 a0_0, .int .i64 a0_1, .int .i64 a0_2]] ?_;(with_reducible refine (bsz.calls a0_0 a0_1 a0_2 t819 _ A3.out).mono ?_);rintro e w9 ⟨rfl,hb⟩;refine ⟨_,rfl,?_⟩;have n_:=Zb (bb_ BK818 hb) (hs_ HB hb);clear BK818 HB;obtain ⟨BK818,HB⟩:=n_;(try clear hb))|((with_reducible refine aUz (N:=28) rfl ?_);refine Kd.R_lit (Kd.int .u8) _ 5 ?hg (N:=28) ?hd (xs:=([(Int.tmod (wrap64 ((l1.length:Int) / 16777216)) 256) % 256,(Int.tmod (wrap64 ((l1.length:Int) / 65536)) 256) % 256,(Int.tmod (wrap64 ((l1.length:Int) / 256)) 256) % 256,(l1.length:Int) % 256] :List Int)) (inner:= [.int .u8 ((Int.tmod (wrap64 ((l1.length:Int) / 16777216)) 256) % 256), .int .u8 ((Int.tmod (wrap64 ((l1.length:Int) / 65536)) 256) % 256), .int .u8 ((Int.tmod (wrap64 ((l1.length:Int) / 256)) 256) % 256), .int .u8 ((l1.length:Int) % 256)]) (ok:=fun _=>True) (okp:=fun _=>True) ?hr ?hp (fun _ hk=>hk) trivial (Zw _ _) (Zv _) (by simp) ?_;(case hd=>rfl);(case hg=>rfl);(case hr=>first|(go_simp;done)|(go_simp;rfl));(case hp=>exact (Reps.one (show Kd.M (Kd.int .u8) _ _ _ ((Int.tmod (wrap64 ((l1.length:Int) / 16777216)) 256) % 256) [.int .u8 ((Int.tmod (wrap64 ((l1.length:Int) / 16777216)) 256) % 256)] from rfl) (Reps.one (show Kd.M (Kd.int .u8) _ _ _ ((Int.tmod (wrap64 ((l1.length:Int) / 65536)) 256) % 256) [.int .u8 ((Int.tmod (wrap64 ((l1.length:Int) / 65536)) 256) % 256)] from rfl) (Reps.one (show Kd.M (Kd.int .u8) _ _ _ ((Int.tmod (wrap64 ((l1.length:Int) / 256)) 256) % 256) [.int .u8 ((Int.tmod (wrap64 ((l1.length:Int) / 256)) 256) % 256)] from rfl) (Reps.one (show Kd.M (Kd.int .u8) _ _ _ ((l1.length:Int) % 256) [.int .u8 ((l1.length:Int) % 256)] from rfl) (Reps.none _ _))))));intro v821 w10 ho11 hb hg_ hnew_;clear hg_ hnew_;(first|rw [<-Ny820.out] at ho11|(simp only [Int.reduceToNat] at ho11;rw [<-Ny820.out] at ho11));have n_:=Zb (Za (Kd.bGz ho11 (acz bl_))) (Zb (bb_ BK818 hb) (hs_ HB hb));clear BK818 HB;obtain ⟨HO822,BK818,HB⟩:=n_;clear hb ho11;obtain ⟨Ao13,co13,eo13⟩:=Kd.a7z HO822.out;subst eo13)|((with_reducible refine anz (b:= .append) (xs:= #[.tmp 12, .tmp 28]) rfl ?_);at_builtin;refine Kd.bVz (Kd.int .u8) (w0:=w) w.heap.size rfl (.tmp 12) (.tmp 28) 34 5 (.int .u8 0) 1 rfl Tryz.underlying34 info5 rfl (by decide) (by omega) (.slice none 0 0) ([] :List Int) y820 _ _ _ (fun k_=>some k_≠(.slice Ao13 y820.length co13:Value).ownBlock) (fun _=>False) rfl rfl ?aO ?aR (fun _ _ h=>h) (fun _ h=>h.elim) ?aF ?aB ?aS ?aL ?_;(case aR=>repeat (first|exact (Kd.aSz HO822.out).2.2|(with_reducible refine Kd.b2z ?_ _)|(with_reducible refine Kd.bzz ?_ _)|(with_reducible refine Kd.ckz ?_)));(case aB=>exact bl_);(case aF=>exact (fun k_ hk=>Kd.fresh' (Kd.R_lt (xd_ HO822.out)) k_ hk));(case aO=>exact ((Kd.R_nil _ _ _ _ (fun k_=>some k_≠(.slice Ao13 y820.length co13:Value).ownBlock))));(case aS=>exact (acz bl_));(case aL=>have:=LMc5.out;omega);intro v824 w12 ho hb hg hat;rw [<-Ny823.out] at ho;have n_:=Zb (Za (czz (g:=gb818) (o:= .cells #[.int .i64 a0_0, .int .i64 a0_1, .int .i64 a0_2] 23 (0,0)) bk_ hg (by simp [Value.ownBlock]))) (Zb (Za (Kd.dLz (Kd.R_apart_nil (xd_ HO822.out)) hg hat)) (Zb (Za (hb)) (Za (ho))));clear BK818 HO822 HB;obtain ⟨BK818,HO822,HB,HO825⟩:=n_;clear ho hb hg hat)|((with_reducible refine anz (b:= .append) (xs:= #[.tmp 30, .tmp 31]) rfl ?_);at_builtin;refine Kd.bVz (Kd.int .u8) (w0:=w) w.heap.size rfl (.tmp 30) (.tmp 31) 34 5 (.int .u8 0) 1 rfl Tryz.underlying34 info5 rfl (by decide) (by omega) v824 y823 l1 _ _ _ (fun k_=>some k_≠(.slice Ao13 y820.length co13:Value).ownBlock) (fun _=>False) rfl rfl ?aO ?aR (fun _ _ h=>h) (fun _ h=>h.elim) ?aF ?aB ?aS ?aL ?_;(case aR=>repeat (first|exact (Kd.aMz HR1.out HB.out)|(with_reducible refine Kd.b2z ?_ _)|(with_reducible refine Kd.bzz ?_ _)|(with_reducible refine Kd.ckz ?_)));(case aB=>exact bl_);(case aF=>exact (fun k_ hk=>Kd.fresh' (Kd.R_lt (xd_ HO822.out)) k_ hk));(case aO=>exact (xd_ HO825.out));(case aS=>exact (acz bl_));(case aL=>have:=LMc6.out;omega);intro v827 w14 ho hb hg hat;rw [<-Ny826.out] at ho;have n_:=Zb (Za (czz (g:=gb818) (o:= .cells #[.int .i64 a0_0, .int .i64 a0_1, .int .i64 a0_2] 23 (0,0)) bk_ hg (Kd.R_ne HO825.out BK818.out (by decide)))) (Zb (Za (Kd.dLz (ok:=(fun _=>True)) (xd_ HO822.out) hg hat)) (Zb (Za (hb)) (Za (ho))));clear BK818 HO822 HB HO825;obtain ⟨BK818,HO822,HB,HO828⟩:=n_;clear ho hb hg hat))
 go_ret;exact ⟨_,er_,rm_ HO828,bl_⟩
mutual
def aEz.l0:Nat->Int->List Int->List (List Int)->Int->Int->Int->Int->Option ((List (List Int))×Int)
 |0,_,_,_,_,_,_,_=>none
 |k+1,x6,x8,x9,x10,x833000,x833001,x833002=>if x10<x833001 then (aEz.l1 k x6 x8 x9 x10 ([] :List Int) 0 x833000 x833001 x833002) else (some (x9,0))
def aEz.l1:Nat->Int->List Int->List (List Int)->Int->List Int->Int->Int->Int->Int->Option ((List (List Int))×Int)
 |0,_,_,_,_,_,_,_,_,_=>none
 |k+1,x6,x8,x9,x10,x11,x12,x833000,x833001,x833002=>if x12<x6 then (if (wrap64 ((wrap64 (x10*x6))+x12))<(x8.length:Int) then (if 0<=(wrap64 ((wrap64 (x10*x6))+x12)) then (if x11.length<140737488355328 then (aEz.l1 k x6 x8 x9 x10 (x11++ [rd x8 (wrap64 ((wrap64 (x10*x6))+x12))]) (wrap64 (x12+1)) x833000 x833001 x833002) else (none)) else (none)) else (if x11.length<140737488355328 then (aEz.l1 k x6 x8 x9 x10 (x11++ [0]) (wrap64 (x12+1)) x833000 x833001 x833002) else (none))) else (if x9.length<5864062014805 then (aEz.l0 k x6 x8 (x9++ [x11]) (wrap64 (x10+1)) x833000 x833001 x833002) else (none))
end
def aEz.f (k:Nat) (a0_0:Int) (a0_1:Int) (a0_2:Int) (l1:List Int):Option ((List (List Int))×Int):=(ayz.f k a0_0 a0_1 a0_2 (l1.length:Int)).bind fun bt833=>(if bt833.2=0 then ((cbz.f a0_0 a0_1 a0_2 l1).bind fun t835=>(aEz.l0 k bt833.1 t835 ([] :List (List Int)) 0 a0_0 a0_1 a0_2)) else (some (([] :List (List Int)),bt833.2)))
theorem aEz.calls (k : Nat) (a0_0 : Int) (a0_1 : Int) (a0_2 : Int) (A1 : Option Addr) (c1 : Nat) (l1 : List Int) (r1 : List (List Int)) (r2 : Int) (w : World) (hr1 : Kd.C (Kd.int .u8) w A1 l1.length l1) (hc1 : l1.length <= c1) (h : aEz.f k a0_0 a0_1 a0_2 l1 = some (r1, r2)) :
  Calls Tryz.prog 56 #[.agg #[.int .i64 a0_0, .int .i64 a0_1, .int .i64 a0_2], .slice A1 l1.length c1] w fun e w'=> ∃v0_:Value,e= .returned (.tuple #[v0_, .int .i64 r2])/\Kd.S (Kd.slice 5 (Kd.int .u8)) 34 w' w.heap.size (fun _=>True) v0_ r1/\Below w.heap.size w w':=by
 have hu23:=Tryz.underlying23;have HR1:=Za hr1;have HC1:=Za hc1;clear hr1 hc1;have HB:=Za (Zw w.heap.size w);have H:=h;clear h;unfold aEz.f at H;obtain ⟨⟨t833,t834⟩,A3,H⟩:=ob_ H
 (try dsimp only at H)
 by_cases c4:t834=0
 rotate_left
 ·rw [Yb c4] at H;have c4b0:(t834==0)=false:=Zq c4;have c4b1:(t834 !=0)=true:=Yd c4;simp only [Zx,Zy] at H;obtain ⟨rfl,rfl⟩:=H;go_enter Tryz.func56,Tryz.ntmps56
  go_wp2_with (first|((with_reducible refine aUz (N:=2) rfl ?_);refine bx_ 2 #[.int .i64 a0_0, .int .i64 a0_1, .int .i64 a0_2] 23 ?_;intro gb832 hg w27 hbox hb;have n_:=Zb (hs_ HB hb) (Zb (Za (hbox)) (Zb (ag_ HB gb832) (ag_ HB gb832)));clear HB;obtain ⟨HB,BK832,GW832,GE832⟩:=n_;clear hb hbox hg;obtain ⟨hcz28_0,hfz28_0,hcz28_1,hfz28_1,hcz28_2,hfz28_2⟩:=bc3_ BK832.out)|((with_reducible refine abz (f:=91) rfl ?_);refine gl_ (some 18) Tryz.func91 #[.agg #[.int .i64 a0_0, .int .i64 a0_1, .int .i64 a0_2], .int .i64 (l1.length:Int)] ?_;(with_reducible refine (ayz.calls k a0_0 a0_1 a0_2 (l1.length:Int) t833 t834 _ A3.out).mono ?_);rintro e w29 ⟨rfl,hb⟩;refine ⟨_,rfl,?_⟩;have n_:=Zb (bb_ BK832 hb) (hs_ HB hb);clear BK832 HB;obtain ⟨BK832,HB⟩:=n_;(try clear hb)))
  go_ret2;exact ⟨_,er_,nl_,bl_⟩
 rw [Ya c4] at H;have c4b0:(t834==0)=true:=Ye c4;have c4b1:(t834 !=0)=false:=Yc c4;clear c4;obtain ⟨t835,A5,H⟩:=ob_ H
 (try dsimp only at H)
 have H':=Za H;clear H;go_enter Tryz.func56,Tryz.ntmps56
 go_wp2_with (first|((with_reducible refine aUz (N:=2) rfl ?_);refine bx_ 2 #[.int .i64 a0_0, .int .i64 a0_1, .int .i64 a0_2] 23 ?_;intro gb832 hg w6 hbox hb;have n_:=Zb (hs_ HB hb) (Zb (Za (hbox)) (Zb (ag_ HB gb832) (ag_ HB gb832)));clear HB;obtain ⟨HB,BK832,GW832,GE832⟩:=n_;clear hb hbox hg;obtain ⟨hcz7_0,hfz7_0,hcz7_1,hfz7_1,hcz7_2,hfz7_2⟩:=bc3_ BK832.out)|((with_reducible refine abz (f:=91) rfl ?_);refine gl_ (some 18) Tryz.func91 #[.agg #[.int .i64 a0_0, .int .i64 a0_1, .int .i64 a0_2], .int .i64 (l1.length:Int)] ?_;(with_reducible refine (ayz.calls k a0_0 a0_1 a0_2 (l1.length:Int) t833 t834 _ A3.out).mono ?_);rintro e w8 ⟨rfl,hb⟩;refine ⟨_,rfl,?_⟩;have n_:=Zb (bb_ BK832 hb) (hs_ HB hb);clear BK832 HB;obtain ⟨BK832,HB⟩:=n_;(try clear hb);obtain ⟨hcz9_0,hfz9_0,hcz9_1,hfz9_1,hcz9_2,hfz9_2⟩:=bc3_ BK832.out)|((with_reducible refine abz (f:=92) rfl ?_);refine gl_ (some 26) Tryz.func92 #[.agg #[.int .i64 a0_0, .int .i64 a0_1, .int .i64 a0_2], .slice A1 l1.length c1] ?_;(with_reducible refine (cbz.calls a0_0 a0_1 a0_2 _ _ l1 t835 _ (xd_ (Kd.aMz HR1.out HB.out)) (HC1.out) A5.out).mono ?_);rintro e w10 ⟨v836,rfl,ho0,hb⟩;refine ⟨_,rfl,?_⟩;have n_:=Zb (Za (Kd.bGz ho0 (acz bl_))) (Zb (bb_ BK832 hb) (hs_ HB hb));clear BK832 HB;obtain ⟨HO837,BK832,HB⟩:=n_;clear hb ho0))
 go_loopg [9,10] k (fun kq v9 v10 w'=> ∃(x9_1:List (List Int)) (x10_1:Int),v10= .int .i64 x10_1/\Aside0 (aEz.l0 kq t833 t835 x9_1 x10_1 a0_0 a0_1 a0_2=some (r1,r2))/\Aside0 (kq<=k)/\Aside0 (Kd.R (Kd.int .u8) 5 w' w.heap.size (fun _=>True) v836 t835)/\Aside0 (Kd.S (Kd.slice 5 (Kd.int .u8)) 34 w' w.heap.size (fun k_=>some k_≠(v836:Value).ownBlock) v9 x9_1)/\Aside0 (w'.heap[gb832]?=some (.cells #[.int .i64 a0_0, .int .i64 a0_1, .int .i64 a0_2] 23 (0,0)))/\Aside0 (Below w.heap.size w w'))
 case atStart=>exact ⟨(([] :List (List Int))),(0),sd_,H',⟨Zv _⟩,⟨xd_ HO837.out⟩,⟨nl_⟩,⟨bk_⟩,⟨bl_⟩⟩
 clear H'
 try clear c1
 try clear p2
 try clear c4
 try clear c4b0
 try clear c4b1
 try clear c5
 try clear c9
 try clear hcz7_0
 try clear hcz7_1
 try clear hcz7_2
 try clear hcz9_0
 try clear hcz9_1
 try clear hcz9_2
 try clear hfz7_0
 try clear hfz7_1
 try clear hfz7_2
 try clear hfz9_0
 try clear hfz9_1
 try clear hfz9_2
 obtain ⟨x9_1,x10_1,rfl,HA,HK1,HO_8,HO_9,BK832,HB⟩:=hrel;rcases gk with _|k1
 ·exact Yf HA.out (by simp [aEz.l0])
 have H:=HA.out;clear HA;simp only [aEz.l0] at H;by_cases c11:x10_1<a0_1
 rotate_left
 ·rw [Yb c11] at H;have c11b0:=Ze c11;clear c11;simp only [Zx,Zy] at H;obtain ⟨rfl,rfl⟩:=H;obtain ⟨hcz26_0,hfz26_0,hcz26_1,hfz26_1,hcz26_2,hfz26_2⟩:=bc3_ BK832.out;go_wp2;go_ret2;exact ⟨_,er_,sm_ HO_9,bl_⟩
 rw [Ya c11] at H;have c11b0:=Zd c11;clear c11;have H':=Za H;clear H;obtain ⟨hcz12_0,hfz12_0,hcz12_1,hfz12_1,hcz12_2,hfz12_2⟩:=bc3_ BK832.out;go_wp2
 go_loopg [11,12] k1 (fun kq v11 v12 w'=> ∃(x11_2:List Int) (x12_2:Int),v12= .int .i64 x12_2/\Aside0 (aEz.l1 kq t833 t835 x9_1 x10_1 x11_2 x12_2 a0_0 a0_1 a0_2=some (r1,r2))/\Aside0 (kq<=k1)/\Aside0 (Kd.R (Kd.int .u8) 5 w' w.heap.size (fun k_=>some k_≠(v11:Value).ownBlock) v836 t835)/\Aside0 (Kd.S (Kd.slice 5 (Kd.int .u8)) 34 w' w.heap.size (fun k_=>some k_≠(v836:Value).ownBlock/\some k_≠(v11:Value).ownBlock) u9 x9_1)/\Aside0 (Kd.R (Kd.int .u8) 5 w' w.heap.size (fun k_=>some k_≠(v836:Value).ownBlock) v11 x11_2)/\Aside0 (w'.heap[gb832]?=some (.cells #[.int .i64 a0_0, .int .i64 a0_1, .int .i64 a0_2] 23 (0,0)))/\Aside0 (Below w.heap.size w w'))
 case atStart=>exact ⟨(([] :List Int)),(0),sd_,H',⟨Zv _⟩,⟨rm_ HO_8⟩,⟨sm_ HO_9⟩,⟨nl_⟩,⟨bk_⟩,⟨bl_⟩⟩
 clear H'
 try clear c1
 try clear p2
 try clear c4
 try clear c4b0
 try clear c4b1
 try clear c5
 try clear c9
 try clear c11
 try clear c11b0
 try clear hcz12_0
 try clear hcz12_1
 try clear hcz12_2
 try clear hcz7_0
 try clear hcz7_1
 try clear hcz7_2
 try clear hcz9_0
 try clear hcz9_1
 try clear hcz9_2
 try clear hfz12_0
 try clear hfz12_1
 try clear hfz12_2
 try clear hfz7_0
 try clear hfz7_1
 try clear hfz7_2
 try clear hfz9_0
 try clear hfz9_1
 try clear hfz9_2
 try clear p2
 obtain ⟨x11_2,x12_2,rfl,HA,HK2,HO_8,HO_9,HO_11,BK832,HB⟩:=hrel;rcases gk with _|k2
 ·exact Yf HA.out (by simp [aEz.l1])
 have H:=HA.out;clear HA;simp only [aEz.l1] at H;by_cases c13:x12_2<t833
 rotate_left
 ·rw [Yb c13] at H;have c13b0:=Ze c13;clear c13;by_cases c23:x9_1.length<5864062014805
  rotate_left
  ·rw [Yb c23] at H;exact Yf H (by simp)
  rw [Ya c23] at H;have LMc23:=Za c23;clear c23;obtain ⟨y845,hy845⟩: ∃y_:List (List Int),y_=(x9_1++ [x11_2]):=⟨_,rfl⟩
  first|rw [Zl, <-hy845] at H|rw [<-hy845] at H
  (try dsimp only at H)
  have Ny845:=Za hy845;clear hy845;have H':=Za H;clear H;obtain ⟨Ao25,co25,eo25⟩:=Kd.a7z HO_11.out;subst eo25
  go_wp2_with (first|((with_reducible refine anz (b:= .append) (xs:= #[.tmp 58, .tmp 60]) rfl ?_);at_builtin;refine Kd.bPz (Kd.slice 5 (Kd.int .u8)) (w0:=w) w.heap.size rfl (.tmp 58) (.tmp 60) 24 34 (.slice none 0 0) 24 rfl Tryz.underlying24 info34 rfl (by decide) (by omega) u9 x9_1 x11_2 [.slice Ao25 x11_2.length co25] (fun k_=>some k_≠(v836:Value).ownBlock) (fun k_=>some k_=(.slice Ao25 x11_2.length co25:Value).ownBlock) rfl rfl ?aP (fun k_ hk_=>((Kd.aQz (ok':=fun k_=>((fun k_=>some k_≠(v836:Value).ownBlock)) k_/\some k_≠(u9:Value).ownBlock) (Kd.bpz (HO_11.out) (Kd.bBz HO_9.out) (by decide)) (fun k_ hk=>⟨hk.1,hk.2⟩))).1 k_ hk_.symm) ?aF ?aO ?aB ?aS ?aL ?_;(case aP=>exact Kd.M_row (Kd.aQz (Kd.b3z rfl (Kd.aQz (ok':=fun k_=>((fun k_=>some k_≠(v836:Value).ownBlock)) k_/\some k_≠(u9:Value).ownBlock) (Kd.bpz (HO_11.out) (Kd.bBz HO_9.out) (by decide)) (fun k_ hk=>⟨hk.1,hk.2⟩))) (fun _ h_=>h_)));(case aB=>exact bl_);(case aF=>exact (fun k_ hk=>Kd.fresh' (Kd.R_lt (xd_ HO_8.out)) k_ hk));(case aO=>exact (sm_ HO_9));(case aS=>exact (acz bl_));(case aL=>have:=LMc23.out;omega);intro v846 w24 ho hb hg hat;rw [<-Ny845.out] at ho;have n_:=Zb (Za (Kd.R_over' (xd_ HO_8.out) (Kd.bBz (xd_ HO_9.out)) (by decide) hg)) (Zb (Za (czz (g:=gb832) (o:= .cells #[.int .i64 a0_0, .int .i64 a0_1, .int .i64 a0_2] 23 (0,0)) bk_ hg (Kd.S_ne HO_9.out BK832.out (by decide)))) (Zb (Za (hb)) (Za (ho))));clear HO_8 BK832 HB HO_9 HO_11;obtain ⟨HO_8,BK832,HB,HO847⟩:=n_;clear ho hb hg hat))
  go_roundg k2
  case measure=>have:=HK1.out;have:=HK2.out;omega
  case rel=>exact ⟨(y845),(wrap64 (x10_1+1)),sd_,H',⟨by have:=HK1.out;have:=HK2.out;omega⟩,⟨rm_ HO_8⟩,⟨xd_ HO847.out⟩,⟨bk_⟩,⟨bl_⟩⟩
 rw [Ya c13] at H;have c13b0:=Zd c13;clear c13;by_cases c14:(wrap64 ((wrap64 (x10_1*t833))+x12_2))<(t835.length:Int)
 rotate_left
 ·rw [Yb c14] at H;have c14b0:=Ze c14;clear c14;by_cases c20:x11_2.length<140737488355328
  rotate_left
  ·rw [Yb c20] at H;exact Yf H (by simp)
  rw [Ya c20] at H;have LMc20:=Za c20;clear c20;obtain ⟨y842,hy842⟩: ∃y_:List Int,y_=(x11_2++ [0]):=⟨_,rfl⟩
  first|rw [Zl, <-hy842] at H|rw [<-hy842] at H
  (try dsimp only at H)
  have Ny842:=Za hy842;clear hy842;have H':=Za H;clear H;obtain ⟨Ao21,co21,eo21⟩:=Kd.a7z HO_8.out;subst eo21
  go_wp2_with (first|((with_reducible refine anz (b:= .append) (xs:= #[.tmp 54, .tmp 56]) rfl ?_);at_builtin;refine Kd.bjz (Kd.int .u8) (w0:=w) w.heap.size rfl (.tmp 54) (.tmp 56) 34 5 (.int .u8 0) 1 rfl Tryz.underlying34 info5 rfl (by decide) (by omega) u11 x11_2 0 [.int .u8 0] (fun k_=>some k_≠(.slice Ao21 t835.length co21:Value).ownBlock) (fun _=>False) rfl rfl ?aP (fun _ hk=>hk.elim) ?aF ?aO ?aB ?aS ?aL ?_;(case aP=>exact rfl);(case aB=>exact bl_);(case aF=>exact (fun k_ hk=>Kd.fresh' (Kd.R_lt (xd_ HO_8.out)) k_ hk));(case aO=>exact (xd_ HO_11.out));(case aS=>exact (acz bl_));(case aL=>have:=LMc20.out;omega);intro v843 w22 ho hb hg hat;rw [<-Ny842.out] at ho;have n_:=Zb (Za (Kd.dLz (ok:=(fun _=>True)) (rm_ HO_8) hg hat)) (Zb (Za (Kd.cwz (ok:=(fun k_=>some k_≠(.slice Ao21 t835.length co21:Value).ownBlock)) (xd_ HO_9.out) hg hat)) (Zb (Za (czz (g:=gb832) (o:= .cells #[.int .i64 a0_0, .int .i64 a0_1, .int .i64 a0_2] 23 (0,0)) bk_ hg (Kd.R_ne HO_11.out BK832.out (by decide)))) (Zb (Za (hb)) (Za (ho)))));clear HO_8 HO_9 BK832 HB HO_11;obtain ⟨HO_8,HO_9,BK832,HB,HO844⟩:=n_;clear ho hb hg hat))
  go_roundg k2
  case measure=>have:=HK1.out;have:=HK2.out;omega
  case rel=>exact ⟨(y842),(wrap64 (x12_2+1)),sd_,H',⟨by have:=HK1.out;have:=HK2.out;omega⟩,⟨rm_ HO_8⟩,⟨xd_ HO_9.out⟩,⟨xd_ HO844.out⟩,⟨bk_⟩,⟨bl_⟩⟩
 rw [Ya c14] at H;have c14b0:=Zd c14;clear c14;obtain ⟨ji15,hji15⟩: ∃j_:Int,(wrap64 ((wrap64 (x10_1*t833))+x12_2))=j_:=⟨_,rfl⟩
 replace H:(if 0<=(ji15) then (if x11_2.length<140737488355328 then (aEz.l1 k2 t833 t835 x9_1 x10_1 (x11_2++ [rd t835 (ji15)]) (wrap64 (x12_2+1)) a0_0 a0_1 a0_2) else (none)) else (none))=some (r1,r2):=by first|(rw [hji15] at H;exact H)|(simp only [hji15] at H|-;exact H)
 (try rw [hji15] at c14b0)
 have hji15w:(IntKind.i64.wrap ((wrap64 (x10_1*t833))+x12_2))=ji15:=(i64_w _).trans hji15;by_cases c16:0<=(ji15)
 rotate_left
 ·rw [Yb c16] at H;exact Yf H (by simp)
 rw [Ya c16] at H;have c16b0:=Zd c16;clear c16;by_cases c17:x11_2.length<140737488355328
 rotate_left
 ·rw [Yb c17] at H;exact Yf H (by simp)
 rw [Ya c17] at H;have LMc17:=Za c17;clear c17;obtain ⟨y839,hy839⟩: ∃y_:List Int,y_=(x11_2++ [rd t835 (ji15)]):=⟨_,rfl⟩
 first|rw [Zl, <-hy839] at H|rw [<-hy839] at H
 (try dsimp only at H)
 have Ny839:=Za hy839;clear hy839;have H':=Za H;clear H;obtain ⟨Ao18,co18,eo18⟩:=Kd.a7z HO_8.out;subst eo18;have p838:0<=((ji15):Int):=Zc as_;have q838:(ji15)<(t835.length:Int):=Zc as_;obtain ⟨ad838,e838,hx838_0⟩:=Kd.bqz (Kd.aSz HO_8.out).2.2 (ji15) p838 q838;cases e838
 replace p838:=Zz p838;replace q838:=Zz q838
 go_wp2_with (first|((with_reducible refine anz (b:= .append) (xs:= #[.tmp 54, .tmp 56]) rfl ?_);at_builtin;refine Kd.bjz (Kd.int .u8) (w0:=w) w.heap.size rfl (.tmp 54) (.tmp 56) 34 5 (.int .u8 0) 1 rfl Tryz.underlying34 info5 rfl (by decide) (by omega) u11 x11_2 (rd t835 (ji15)) [.int .u8 (rd t835 (ji15))] (fun k_=>some k_≠(.slice (some ad838) t835.length co18:Value).ownBlock) (fun _=>False) rfl rfl ?aP (fun _ hk=>hk.elim) ?aF ?aO ?aB ?aS ?aL ?_;(case aP=>exact rfl);(case aB=>exact bl_);(case aF=>exact (fun k_ hk=>Kd.fresh' (Kd.R_lt (xd_ HO_8.out)) k_ hk));(case aO=>exact (xd_ HO_11.out));(case aS=>exact (acz bl_));(case aL=>have:=LMc17.out;omega);intro v840 w19 ho hb hg hat;rw [<-Ny839.out] at ho;have n_:=Zb (Za (Kd.dLz (ok:=(fun _=>True)) (rm_ HO_8) hg hat)) (Zb (Za (Kd.cwz (ok:=(fun k_=>some k_≠(.slice (some ad838) t835.length co18:Value).ownBlock)) (xd_ HO_9.out) hg hat)) (Zb (Za (czz (g:=gb832) (o:= .cells #[.int .i64 a0_0, .int .i64 a0_1, .int .i64 a0_2] 23 (0,0)) bk_ hg (Kd.R_ne HO_11.out BK832.out (by decide)))) (Zb (Za (hb)) (Za (ho)))));clear HO_8 HO_9 BK832 HB HO_11;obtain ⟨HO_8,HO_9,BK832,HB,HO841⟩:=n_;clear ho hb hg hat))
 go_roundg k2
 case measure=>have:=HK1.out;have:=HK2.out;omega
 case rel=>exact ⟨(y839),(wrap64 (x12_2+1)),sd_,H',⟨by have:=HK1.out;have:=HK2.out;omega⟩,⟨rm_ HO_8⟩,⟨xd_ HO_9.out⟩,⟨xd_ HO841.out⟩,⟨bk_⟩,⟨bl_⟩⟩
def cgz.f (k:Nat) (a0_0:Int) (a0_1:Int) (a0_2:Int) (l1:List Int):Option ((List (List Int))×Int):=(aEz.f k a0_0 a0_1 a0_2 l1).bind fun bt849=>(if bt849.2=0 then ((arz.f k a0_0 a0_1 a0_2 bt849.1).bind fun bt853=>((some (([] :List (List Int)):List (List Int))).bind fun y857=>(if y857.length+bt849.1.length<5864062014805 then ((some (y857++bt849.1:List (List Int))).bind fun y860=>(if y860.length+bt853.1.length<5864062014805 then (some ((y860++bt853.1),0)) else (none))) else (none)))) else (some (([] :List (List Int)),bt849.2)))
theorem cgz.calls (k : Nat) (a0_0 : Int) (a0_1 : Int) (a0_2 : Int) (A1 : Option Addr) (c1 : Nat) (l1 : List Int) (r1 : List (List Int)) (r2 : Int) (w : World) (hr1 : Kd.C (Kd.int .u8) w A1 l1.length l1) (hc1 : l1.length <= c1) (h : cgz.f k a0_0 a0_1 a0_2 l1 = some (r1, r2)) :
  Calls Tryz.prog 25 #[.agg #[.int .i64 a0_0, .int .i64 a0_1, .int .i64 a0_2], .slice A1 l1.length c1] w fun e w'=> ∃v0_:Value,e= .returned (.tuple #[v0_, .int .i64 r2])/\Kd.N (Kd.slice 5 (Kd.int .u8)) 34 w' w.heap.size (fun k_=>(w.heap.size<=k_)) v0_ r1/\Below w.heap.size w w':=by
 have hu23:=Tryz.underlying23;have HR1:=Za hr1;have HC1:=Za hc1;clear hr1 hc1;have HB:=Za (Zw w.heap.size w);have H:=h;clear h;unfold cgz.f at H;obtain ⟨⟨t849,t852⟩,A3,H⟩:=ob_ H
 (try dsimp only at H)
 by_cases c4:t852=0
 rotate_left
 ·rw [Yb c4] at H;have c4b0:(t852==0)=false:=Zq c4;have c4b1:(t852 !=0)=true:=Yd c4;simp only [Zx,Zy] at H;obtain ⟨rfl,rfl⟩:=H;go_enter Tryz.func25,Tryz.ntmps25
  go_wp2_with (first|((with_reducible refine aUz (N:=2) rfl ?_);refine bx_ 2 #[.int .i64 a0_0, .int .i64 a0_1, .int .i64 a0_2] 23 ?_;intro gb848 hg w19 hbox hb;have n_:=Zb (hs_ HB hb) (Zb (Za (hbox)) (Zb (ag_ HB gb848) (ag_ HB gb848)));clear HB;obtain ⟨HB,BK848,GW848,GE848⟩:=n_;clear hb hbox hg;obtain ⟨hcz20_0,hfz20_0,hcz20_1,hfz20_1,hcz20_2,hfz20_2⟩:=bc3_ BK848.out)|((with_reducible refine abz (f:=56) rfl ?_);refine gl_ (some 14) Tryz.func56 #[.agg #[.int .i64 a0_0, .int .i64 a0_1, .int .i64 a0_2], .slice A1 l1.length c1] ?_;(with_reducible refine (aEz.calls k a0_0 a0_1 a0_2 _ _ l1 t849 t852 _ (xd_ (Kd.aMz HR1.out HB.out)) (HC1.out) A3.out).mono ?_);rintro e w21 ⟨v850,rfl,ho0,hb⟩;refine ⟨_,rfl,?_⟩;have n_:=Zb (Za (Kd.bUz (Kd.bRz (ok':=fun k_=>(w.heap.size<=k_)/\k_≠gb848) (Kd.S_N (Kd.bEz ho0)) (fun k_ hk_=>⟨(Zt (acz bl_) hk_.2.1),(Kd.freshB (g:=gb848) (o:= .cells #[.int .i64 a0_0, .int .i64 a0_1, .int .i64 a0_2] 23 (0,0)) bk_ k_ hk_.2.1)⟩)) (acz bl_))) (Zb (bb_ BK848 hb) (hs_ HB hb));clear BK848 HB;obtain ⟨HO851,BK848,HB⟩:=n_;clear hb ho0))
  go_ret2;exact ⟨_,er_,nl_,bl_⟩
 rw [Ya c4] at H;have c4b0:(t852==0)=true:=Ye c4;have c4b1:(t852 !=0)=false:=Yc c4;clear c4;obtain ⟨⟨t853,t856⟩,A5,H⟩:=ob_ H
 (try dsimp only at H)
 obtain ⟨y857,hy857⟩: ∃y_:List (List Int),y_=(([] :List (List Int))):=⟨_,rfl⟩
 first|rw [Zl, <-hy857] at H|rw [<-hy857] at H
 (try dsimp only at H)
 have Ny857:=Za hy857;clear hy857;by_cases c6:y857.length+t849.length<5864062014805
 rotate_left
 ·rw [Yb c6] at H;exact Yf H (by simp)
 rw [Ya c6] at H;have LMc6:=Za c6;clear c6;obtain ⟨y860,hy860⟩: ∃y_:List (List Int),y_=(y857++t849):=⟨_,rfl⟩
 first|rw [Zl, <-hy860] at H|rw [<-hy860] at H
 (try dsimp only at H)
 have Ny860:=Za hy860;clear hy860;by_cases c7:y860.length+t853.length<5864062014805
 rotate_left
 ·rw [Yb c7] at H;exact Yf H (by simp)
 rw [Ya c7] at H;have LMc7:=Za c7;clear c7;obtain ⟨y863,hy863⟩: ∃y_:List (List Int),y_=(y860++t853):=⟨_,rfl⟩
 first|rw [Zl, <-hy863] at H|rw [<-hy863] at H
 (try dsimp only at H)
 have Ny863:=Za hy863;clear hy863;simp only [Zx,Zy] at H;obtain ⟨rfl,rfl⟩:=H;go_enter Tryz.func25,Tryz.ntmps25
 go_wp2_with (first|((with_reducible refine aUz (N:=2) rfl ?_);refine bx_ 2 #[.int .i64 a0_0, .int .i64 a0_1, .int .i64 a0_2] 23 ?_;intro gb848 hg w8 hbox hb;have n_:=Zb (hs_ HB hb) (Zb (Za (hbox)) (Zb (ag_ HB gb848) (ag_ HB gb848)));clear HB;obtain ⟨HB,BK848,GW848,GE848⟩:=n_;clear hb hbox hg;obtain ⟨hcz9_0,hfz9_0,hcz9_1,hfz9_1,hcz9_2,hfz9_2⟩:=bc3_ BK848.out)|((with_reducible refine abz (f:=56) rfl ?_);refine gl_ (some 14) Tryz.func56 #[.agg #[.int .i64 a0_0, .int .i64 a0_1, .int .i64 a0_2], .slice A1 l1.length c1] ?_;(with_reducible refine (aEz.calls k a0_0 a0_1 a0_2 _ _ l1 t849 t852 _ (xd_ (Kd.aMz HR1.out HB.out)) (HC1.out) A3.out).mono ?_);rintro e w10 ⟨v850,rfl,ho0,hb⟩;refine ⟨_,rfl,?_⟩;have n_:=Zb (Za (Kd.bUz (Kd.bRz (ok':=fun k_=>(w.heap.size<=k_)/\k_≠gb848) (Kd.S_N (Kd.bEz ho0)) (fun k_ hk_=>⟨(Zt (acz bl_) hk_.2.1),(Kd.freshB (g:=gb848) (o:= .cells #[.int .i64 a0_0, .int .i64 a0_1, .int .i64 a0_2] 23 (0,0)) bk_ k_ hk_.2.1)⟩)) (acz bl_))) (Zb (bb_ BK848 hb) (hs_ HB hb));clear BK848 HB;obtain ⟨HO851,BK848,HB⟩:=n_;clear hb ho0;obtain ⟨hcz11_0,hfz11_0,hcz11_1,hfz11_1,hcz11_2,hfz11_2⟩:=bc3_ BK848.out;obtain ⟨Ao12,co12,eo12⟩:=Kd.clz HO851.out;subst eo12)|((with_reducible refine abz (f:=20) rfl ?_);refine gl_ (some 23) Tryz.func20 #[.agg #[.int .i64 a0_0, .int .i64 a0_1, .int .i64 a0_2], .slice Ao12 t849.length co12] ?_;(with_reducible refine (arz.calls k a0_0 a0_1 a0_2 _ _ t849 t853 t856 _ (xd_ (Kd.btz HO851.out).2.2) ((Kd.btz HO851.out).2.1) A5.out).mono ?_);rintro e w13 ⟨v854,rfl,ho0,hb⟩;refine ⟨_,rfl,?_⟩;have n_:=Zb (Za (Kd.b5z (xd_ HO851.out) (Kd.dhz ho0) hb)) (Zb (Za (Kd.bUz (Kd.bRz (ok':=fun k_=>(w.heap.size<=k_)/\some k_≠(.slice Ao12 t849.length co12:Value).ownBlock/\k_≠gb848) (Kd.S_N (Kd.bEz ho0)) (fun k_ hk_=>⟨(Zt (acz bl_) hk_.2.1),(Kd.fresh' (Kd.N_lt (xd_ HO851.out)) k_ hk_.2.1),(Kd.freshB (g:=gb848) (o:= .cells #[.int .i64 a0_0, .int .i64 a0_1, .int .i64 a0_2] 23 (0,0)) bk_ k_ hk_.2.1)⟩)) (acz bl_))) (Zb (bb_ BK848 hb) (hs_ HB hb)));clear HO851 BK848 HB;obtain ⟨HO851,HO855,BK848,HB⟩:=n_;clear hb ho0)|((with_reducible refine aUz (N:=26) rfl ?_);refine Kd.N_lit (Kd.slice 5 (Kd.int .u8)) _ 34 ?hg (N':=26) ?hd (xs:=([] :List (List Int))) (inner:= []) (ok:=(fun k_=>(w.heap.size<=k_)/\some k_≠(.slice Ao12 t849.length co12:Value).ownBlock/\some k_≠(v854:Value).ownBlock/\k_≠gb848)) (okp:=(fun k_=>(w.heap.size<=k_)/\some k_≠(.slice Ao12 t849.length co12:Value).ownBlock/\some k_≠(v854:Value).ownBlock/\k_≠gb848)) ?hr ?hp (fun _ hk=>hk) ((show∀k_,w13.heap.size<=k_->(fun k_=>(w.heap.size<=k_)/\some k_≠(.slice Ao12 t849.length co12:Value).ownBlock/\some k_≠(v854:Value).ownBlock/\k_≠gb848) k_ from fun k_ hk=>⟨(Zt (acz bl_) hk),Kd.fresh' (Kd.N_lt (xd_ HO851.out)) k_ hk,Kd.fresh' (Kd.N_lt (xd_ HO855.out)) k_ hk,Kd.freshB (g:=gb848) (o:= .cells #[.int .i64 a0_0, .int .i64 a0_1, .int .i64 a0_2] 23 (0,0)) bk_ k_ hk⟩) _ (Zv _)) (Zw _ _) (Zv _) (by simp) ?_;(case hd=>rfl);(case hg=>rfl);(case hr=>first|(go_simp;done)|(go_simp;rfl));(case hp=>exact (Reps.none _ _));intro v858 w14 ho15 hb hg_ hnew_;clear hg_ hnew_;(first|rw [<-Ny857.out] at ho15|(simp only [Int.reduceToNat] at ho15;rw [<-Ny857.out] at ho15));have n_:=Zb (Za (Kd.b5z (xd_ HO851.out) (Kd.cTz ho15) hb)) (Zb (Za (Kd.b5z (xd_ HO855.out) (Kd.cTz ho15) hb)) (Zb (Za (Kd.bUz ho15 (acz bl_))) (Zb (bb_ BK848 hb) (hs_ HB hb))));clear HO851 HO855 BK848 HB;obtain ⟨HO851,HO855,HO859,BK848,HB⟩:=n_;clear hb ho15)|((with_reducible refine anz (b:= .append) (xs:= #[.tmp 26, .tmp 27]) rfl ?_);at_builtin;refine Kd.dnz (Kd.slice 5 (Kd.int .u8)) (w0:=w) w.heap.size rfl (.tmp 26) (.tmp 27) 24 34 (.slice none 0 0) 24 rfl Tryz.underlying24 info34 rfl (by decide) (by omega) v858 y857 t849 _ _ _ (fun k_=>(w.heap.size<=k_)/\some k_≠(v854:Value).ownBlock/\k_≠gb848) (fun k_=>((fun k_=>(w.heap.size<=k_)/\some k_≠(v854:Value).ownBlock/\k_≠gb848)) k_/\some k_≠(v858:Value).ownBlock) rfl rfl ?aO ?aR (fun _ hk=>hk) ?aF ?aB ?aS ?aL ?_;(case aR=>exact (by skip;exact Kd.N_F (Kd.bRz (ok':=(fun k_=>((fun k_=>(w.heap.size<=k_)/\some k_≠(v854:Value).ownBlock/\k_≠gb848)) k_/\some k_≠(v858:Value).ownBlock)) (HO851.out) (fun k_ hk=>⟨⟨hk.1.1.1,⟨hk.1.2,hk.1.1.2⟩⟩,hk.2⟩))));(case aB=>exact bl_);(case aF=>exact (fun k_ hk=>⟨(Zt (acz bl_) hk),Kd.fresh' (Kd.N_lt (xd_ HO855.out)) k_ hk,Kd.freshB (g:=gb848) (o:= .cells #[.int .i64 a0_0, .int .i64 a0_1, .int .i64 a0_2] 23 (0,0)) bk_ k_ hk⟩));(case aO=>exact (nm_ HO859));(case aS=>exact (acz bl_));(case aL=>have:=LMc6.out;omega);intro v861 w16 ho hb hg hat;rw [<-Ny860.out] at ho;have n_:=Zb (Za (czz (g:=gb848) (o:= .cells #[.int .i64 a0_0, .int .i64 a0_1, .int .i64 a0_2] 23 (0,0)) bk_ hg (Kd.N_ne HO859.out BK848.out (by decide)))) (Zb (Za (Kd.caz (ok:=(fun k_=>(w.heap.size<=k_)/\some k_≠(v854:Value).ownBlock/\k_≠gb848)) (nm_ HO851) hg hat)) (Zb (Za (Kd.caz (ok:=(fun k_=>(w.heap.size<=k_)/\some k_≠(.slice Ao12 t849.length co12:Value).ownBlock/\k_≠gb848)) (xd_ HO855.out) hg hat)) (Zb (Za (hb)) (Za (ho)))));clear BK848 HO851 HO855 HB HO859;obtain ⟨BK848,HO851,HO855,HB,HO862⟩:=n_;clear ho hb hg hat;obtain ⟨Ao18,co18,eo18⟩:=Kd.clz HO855.out;subst eo18)|((with_reducible refine anz (b:= .append) (xs:= #[.tmp 29, .tmp 30]) rfl ?_);at_builtin;refine Kd.dnz (Kd.slice 5 (Kd.int .u8)) (w0:=w) w.heap.size rfl (.tmp 29) (.tmp 30) 24 34 (.slice none 0 0) 24 rfl Tryz.underlying24 info34 rfl (by decide) (by omega) v861 y860 t853 _ _ _ (fun k_=>(w.heap.size<=k_)/\k_≠gb848) (fun k_=>((fun k_=>(w.heap.size<=k_)/\k_≠gb848)) k_/\some k_≠(v861:Value).ownBlock) rfl rfl ?aO ?aR (fun _ hk=>hk) ?aF ?aB ?aS ?aL ?_;(case aR=>exact (by skip;exact Kd.N_F (Kd.bRz (ok':=(fun k_=>((fun k_=>(w.heap.size<=k_)/\k_≠gb848)) k_/\some k_≠(v861:Value).ownBlock)) (HO855.out) (fun k_ hk=>⟨⟨hk.1.1,hk.1.2.2⟩,hk.2⟩))));(case aB=>exact bl_);(case aF=>exact (fun k_ hk=>⟨(Zt (acz bl_) hk),Kd.freshB (g:=gb848) (o:= .cells #[.int .i64 a0_0, .int .i64 a0_1, .int .i64 a0_2] 23 (0,0)) bk_ k_ hk⟩));(case aO=>exact (nm_ HO862));(case aS=>exact (acz bl_));(case aL=>have:=LMc7.out;omega);intro v864 w17 ho hb hg hat;rw [<-Ny863.out] at ho;have n_:=Zb (Za (czz (g:=gb848) (o:= .cells #[.int .i64 a0_0, .int .i64 a0_1, .int .i64 a0_2] 23 (0,0)) bk_ hg (Kd.N_ne HO862.out BK848.out (by decide)))) (Zb (Za (Kd.caz (ok:=(fun k_=>(w.heap.size<=k_)/\some k_≠(.slice Ao18 t853.length co18:Value).ownBlock/\k_≠gb848)) (xd_ HO851.out) hg hat)) (Zb (Za (Kd.caz (ok:=(fun k_=>(w.heap.size<=k_)/\some k_≠(.slice Ao12 t849.length co12:Value).ownBlock/\k_≠gb848)) (xd_ HO855.out) hg hat)) (Zb (Za (hb)) (Za (ho)))));clear BK848 HO851 HO855 HB HO862;obtain ⟨BK848,HO851,HO855,HB,HO865⟩:=n_;clear ho hb hg hat))
 go_ret2;exact ⟨_,er_,nm_ HO865,bl_⟩
def aPz.l0:Nat->List Int->List Int->Int->Int->Option (Bool)
 |0,_,_,_,_=>none
 |k+1,x0,x1,x12,x13=>if x13<x12 then (if 0<=x13 then (if x13<(x0.length:Int) then (if x13<(x1.length:Int) then (if (rd x0 x13)=(rd x1 x13) then (aPz.l0 k x0 x1 x12 (wrap64 (x13+1))) else (some false)) else (none)) else (none)) else (none)) else (some true)
def aPz.f (k:Nat) (l0:List Int) (l1:List Int):Option (Bool):=if (l0.length:Int)=(l1.length:Int) then (aPz.l0 k l0 l1 (l0.length:Int) 0) else (some false)
theorem aPz.calls (k : Nat) (A0 : Option Addr) (c0 : Nat) (l0 : List Int) (A1 : Option Addr) (c1 : Nat) (l1 : List Int) (r : Bool) (w : World) (hr0 : Kd.C (Kd.int .u8) w A0 l0.length l0) (hc0 : l0.length <= c0) (hr1 : Kd.C (Kd.int .u8) w A1 l1.length l1) (hc1 : l1.length <= c1) (h : aPz.f k l0 l1 = some r) :
  Calls Tryz.prog 54 #[.slice A0 l0.length c0, .slice A1 l1.length c1] w fun e w'=>e= .returned (.bool r)/\Drawn0 w w':=by
 have HR0:=Za hr0;have HC0:=Za hc0;clear hr0 hc0;have HR1:=Za hr1;have HC1:=Za hc1;clear hr1 hc1;have H:=h;clear h;unfold aPz.f at H;by_cases c3:(l0.length:Int)=(l1.length:Int)
 rotate_left
 ·rw [Yb c3] at H;have c3b0:((l0.length:Int)==(l1.length:Int))=false:=Zq c3;have c3b1:((l0.length:Int) !=(l1.length:Int))=true:=Yd c3
  have c3b2:(l0.length==l1.length)=false:=by first|simpa using c3|(simp at c3|-;omega)
  obtain rfl:=Zn H;go_enter Tryz.func54,Tryz.ntmps54;go_wp2
  repeat (go_quiet (fail);try go_wp2)
  go_ret;exact ⟨sd_,dn_⟩
 rw [Ya c3] at H;have c3b0:((l0.length:Int)==(l1.length:Int))=true:=Ye c3;have c3b1:((l0.length:Int) !=(l1.length:Int))=false:=Yc c3
 have c3b2:(l0.length==l1.length)=true:=by first|simpa using c3|(simp at c3|-;omega)
 clear c3;have H':=Za H;clear H;go_enter Tryz.func54,Tryz.ntmps54;go_wp2
 repeat (go_quiet (fail);try go_wp2)
 go_loopg [13] k (fun kq v13 w'=> ∃(x13_1:Int),v13= .int .i64 x13_1/\Aside0 (aPz.l0 kq l0 l1 (l0.length:Int) x13_1=some r)/\Aside0 (kq<=k)/\Drawn0 w w')
 case atStart=>exact ⟨(0),sd_,H',⟨Zv _⟩,dn_⟩
 clear H'
 try clear c1
 try clear p2
 try clear c3
 try clear c3b0
 try clear c3b1
 try clear c3b2
 obtain ⟨x13_1,rfl,HA,HK1,⟨m1,rfl⟩⟩:=hrel;rcases gk with _|k1
 ·exact Yf HA.out (by simp [aPz.l0])
 have H:=HA.out;clear HA;simp only [aPz.l0] at H;by_cases c4:x13_1<(l0.length:Int)
 rotate_left
 ·rw [Yb c4] at H;have c4b0:=Ze c4;clear c4;obtain rfl:=Zn H;go_wp2
  repeat (go_quiet (fail);try go_wp2)
  go_ret;exact ⟨sd_,dn_⟩
 rw [Ya c4] at H;have c4b0:=Zd c4;clear c4;by_cases c5:0<=x13_1
 rotate_left
 ·rw [Yb c5] at H;exact Yf H (by simp)
 rw [Ya c5] at H;have c5b0:=Zd c5;clear c5;by_cases c6:x13_1<(l0.length:Int)
 rotate_left
 ·rw [Yb c6] at H;exact Yf H (by simp)
 rw [Ya c6] at H;have c6b0:=Zd c6;clear c6;by_cases c7:x13_1<(l1.length:Int)
 rotate_left
 ·rw [Yb c7] at H;exact Yf H (by simp)
 rw [Ya c7] at H;have c7b0:=Zd c7;clear c7;by_cases c8:(rd l0 x13_1)=(rd l1 x13_1)
 rotate_left
 ·rw [Yb c8] at H;have c8b0:((rd l0 x13_1)==(rd l1 x13_1))=false:=Zq c8;have c8b1:((rd l0 x13_1) !=(rd l1 x13_1))=true:=Yd c8;obtain rfl:=Zn H;have p109:0<=(x13_1:Int):=Zc as_;have q109:x13_1<(l0.length:Int):=Zc as_;obtain ⟨ad109,e109,hx109_0⟩:=Kd.bqz HR0.out x13_1 p109 q109;cases e109
  replace p109:=Zz p109;replace q109:=Zz q109;have p110:0<=(x13_1:Int):=Zc as_;have q110:x13_1<(l1.length:Int):=Zc as_;obtain ⟨ad110,e110,hx110_0⟩:=Kd.bqz HR1.out x13_1 p110 q110;cases e110
  replace p110:=Zz p110;replace q110:=Zz q110;go_wp2
  repeat (go_quiet (fail);try go_wp2)
  go_ret;exact ⟨sd_,dn_⟩
 rw [Ya c8] at H;have c8b0:((rd l0 x13_1)==(rd l1 x13_1))=true:=Ye c8;have c8b1:((rd l0 x13_1) !=(rd l1 x13_1))=false:=Yc c8;clear c8;have H':=Za H;clear H;have p109:0<=(x13_1:Int):=Zc as_;have q109:x13_1<(l0.length:Int):=Zc as_;obtain ⟨ad109,e109,hx109_0⟩:=Kd.bqz HR0.out x13_1 p109 q109;cases e109
 replace p109:=Zz p109;replace q109:=Zz q109;have p110:0<=(x13_1:Int):=Zc as_;have q110:x13_1<(l1.length:Int):=Zc as_;obtain ⟨ad110,e110,hx110_0⟩:=Kd.bqz HR1.out x13_1 p110 q110;cases e110
 replace p110:=Zz p110;replace q110:=Zz q110;go_wp2
 repeat (go_quiet (fail);try go_wp2)
 go_roundg k1
 case measure=>have:=HK1.out;omega
 case rel=>exact ⟨(wrap64 (x13_1+1)),sd_,H',⟨by have:=HK1.out;omega⟩,dn_⟩
def eqRows (k:Nat):List (List Int)->List (List Int)->Option Bool
 | [], [] =>some true
 |x::xs,y::ys=>(aPz.f k x y).bind fun b=>if b=true then eqRows k xs ys else some false
 |_,_=>some false
def eqFunc (k:Nat) (p q:List (List Int)):Option Bool:=if p.length=q.length then (if p.length<=1000000 then eqRows k p q else none) else some false
theorem eqFunc.calls (K : Nat) (A B : Option Addr) (ca cb : Nat) (p q : List (List Int)) (r : Bool) (W : World) (hA : Kd.C (dM 5 .u8) W A p.length p) (hB : Kd.C (dM 5 .u8) W B q.length q) (h : eqFunc K p q = some r) :
  Calls Tryz.prog 53 #[.slice A p.length ca, .slice B q.length cb, .func (.func 54) #[] #[]] W fun e w'=>e= .returned (.bool r)/\Below W.heap.size W w':=by
 unfold eqFunc at h;by_cases hl:p.length=q.length
 ·rw [Ya hl] at h;by_cases hsm:p.length<=1000000
  ·rw [Ya hsm] at h;have HA:=Za hA;have HBq:=Za hB;obtain ⟨n,hn⟩: ∃n,q.length=n:=⟨_,rfl⟩;have HN:=Za (show p.length=n/\q.length=n from ⟨hl.trans hn,hn⟩);have hnn:n<=1000000:=by omega
   rw [hl,hn];have HR:=Za h;have hself:((n:Int) !=(n:Int))=false:=by simp
   clear h hA hB hl hn;go_enter Tryz.func53,Tryz.ntmps53;go_wp2
   go_loopw [17] (fun iv wr=> ∃i:Nat,i<=n/\iv= .int .i64 (i:Int)/\Aside0 (Below W.heap.size W wr)/\Aside0 (eqRows K (p.drop i) (q.drop i)=some r)) (fun iv _=>n - (intOf iv).toNat)
   case atStart=>exact ⟨0,Nat.zero_le _,rfl,⟨Zw _ _⟩,⟨by simpa using HR.out⟩⟩
   clear HR;obtain ⟨w6,rfl⟩: ∃w6,w6=wr:=⟨_,rfl⟩;obtain ⟨i,hi,rfl,HB,HE⟩:=hrel;by_cases hlt:i<n
   ·obtain ⟨x,hx⟩: ∃x,p[i]?=some x:=⟨_,Zf (by have:=HN.out.1;omega)⟩;obtain ⟨y,hy⟩: ∃y,q[i]?=some y:=⟨_,Zf (by have:=HN.out.2;omega)⟩;obtain ⟨a1,A1,c1,rfl,e1,l1,C1⟩:=b9z (Kd.aMz HA.out HB.out) i x hx;obtain ⟨a2,A2,c2,rfl,e2,l2,C2⟩:=b9z (Kd.aMz HBq.out HB.out) i y hy
    have hd1:p.drop i=x::p.drop (i+1):=by
     obtain ⟨h1,h2⟩:=Zk hx;rw [List.drop_eq_getElem_cons h1,h2]
    have hd2:q.drop i=y::q.drop (i+1):=by
     obtain ⟨h1,h2⟩:=Zk hy;rw [List.drop_eq_getElem_cons h1,h2]
    have he:=HE.out;rw [hd1,hd2,eqRows] at he;obtain ⟨b,hb,he⟩:=Option.bind_eq_some_iff.1 he;have HC:=Za (aPz.calls K A1 c1 x A2 c2 y b w6 C1 l1 C2 l2 hb);have i1:(0:Int)<=(i:Int):=by omega
    have i2:(i:Int)<(n:Int):=by omega
    have HE2:=Za he;clear hd1 hd2 hb he C1 C2 l1 l2 hx hy HE
    cases b with
    |true=>
     go_wp2_with fail
     refine HC.out.mono ?_;rintro e w9 ⟨rfl,m9,rfl⟩;have HB9:=Za (aZz HB.out m9);go_wp2;go_roundw
     case rel=>exact ⟨i+1,by omega,by go_num,HB9,⟨by simpa using HE2.out⟩⟩
     case measure=>simp [intOf];omega
    |false=>
     have HRR:=Za (show r=false by have:=HE2.out;rw [Yb (by decide)] at this;cases this;rfl)
     go_wp2_with fail
     refine HC.out.mono ?_;rintro e w9 ⟨rfl,m9,rfl⟩;have HB9:=Za (aZz HB.out m9);go_wp2;go_ret;exact ⟨by rw [HRR.out];rfl,HB9.out⟩
   ·obtain rfl:i=n:=by omega
    have HRR:=Za (show r=true by
     have:=HE.out;rw [List.drop_of_length_le (by rw [HN.out.1];exact Zv _),List.drop_of_length_le (by rw [HN.out.2];exact Zv _),eqRows] at this
     cases this;rfl)
    go_wp2;go_ret;exact ⟨by rw [HRR.out];rfl,HB.out⟩
  ·rw [Yb hsm] at h;cases h
 ·rw [Yb hl] at h;cases h
  have hne:((p.length:Int) !=(q.length:Int))=true:=by simpa using fun h=>hl (by omega)
  generalize p.length=n1 at hne|-;generalize q.length=n2 at hne|-;clear hA hB hl;go_enter Tryz.func53,Tryz.ntmps53;go_wp2;go_ret;exact ⟨rfl,Zw _ _⟩
def bFz.f (k:Nat) (a0_0 a0_1 a0_2:Int) (l1:List (List Int)):Option Bool:=
 (aGz.f a0_0 a0_1 a0_2).bind fun b=>if b=true then (if (l1.length:Int)=a0_1+a0_2 then ((aFz.f k a0_0 a0_1 a0_2 (l1.take a0_1.toNat)).bind fun t=>if t.2=0 then eqFunc k t.1 (l1.drop a0_1.toNat) else some false) else some false) else some false
theorem cut_to3 {P : Program} (t e : TypeId) {i : TypeInfo} (ht : P.underlying t = some (.slice e)) (hi : P.info? e = some i) (A : Option Addr) (n c j : Nat) (hm : j <= n) (hc : n <= c) :
  ∀W:World,(Instr.slice t (.slice A n c) none (some (.int .i64 (j:Int))) (some (.int .i64 (j:Int)))).run P W= .ok (.slice A j j) W:=by
 intro W;have hel:P.elem t=e:=by simp [Program.elem,ht]
 have hu:P.underlying t=some (.slice (P.elem t)):=by rw [hel];exact ht
 have ha:(A.map fun x=>x.add 0)=A:=by cases A<;>simp [Addr.add]
 have h1:(j:Int)<=(c:Int):=by omega
 simp [Instr.slice,run_underlying hu,Instr.sliceBounds,run_sliceBound,h1,hel,sizeOf,typeInfo,hi,sliced,Result.andThen,ha]
theorem bFz.nomay (a0_0 a0_1 a0_2 : Int) (A1 : Option Addr) (c1 n : Nat) (w : World) (h : aGz.f a0_0 a0_1 a0_2 = some false) :
  Calls Tryz.prog 22 #[.agg #[.int .i64 a0_0, .int .i64 a0_1, .int .i64 a0_2], .slice A1 n c1] w fun e w'=>e= .returned (.bool false)/\Below w.heap.size w w':=by
 have HM:=Za (fun w=>aGz.calls a0_0 a0_1 a0_2 false w h);have hu:=Tryz.underlying23;have HB:=Za (aoz (Zw w.heap.size w) (.cells #[.int .i64 a0_0, .int .i64 a0_1, .int .i64 a0_2] 23));clear h;go_enter Tryz.func22,Tryz.ntmps22
 go_wp2_with fail
 generalize w.alloc (.cells #[.int .i64 a0_0, .int .i64 a0_1, .int .i64 a0_2] 23)=w0 at HB|-;refine (HM.out w0).mono ?_;rintro e w1 ⟨rfl,hB1⟩;have HB1:=Za (HB.out.trans (hB1.mono HB.out.size));clear hB1;go_wp2;go_ret;exact ⟨rfl,HB1.out⟩
theorem bFz.nolen (a0_0 a0_1 a0_2 : Int) (A1 : Option Addr) (c1 n : Nat) (w : World) (h : aGz.f a0_0 a0_1 a0_2 = some true) (hk : 1 <= a0_1 /\ a0_1 <= 1000 /\ 1 <= a0_2 /\ a0_2 <= 1000) (hn : (n : Int) ≠ a0_1 + a0_2) :
  Calls Tryz.prog 22 #[.agg #[.int .i64 a0_0, .int .i64 a0_1, .int .i64 a0_2], .slice A1 n c1] w fun e w'=>e= .returned (.bool false)/\Below w.heap.size w w':=by
 have HM:=Za (fun w=>aGz.calls a0_0 a0_1 a0_2 true w h);have hu:=Tryz.underlying23;have HB:=Za (aoz (Zw w.heap.size w) (.cells #[.int .i64 a0_0, .int .i64 a0_1, .int .i64 a0_2] 23));have HX:=Za (heap_alloc_new w (.cells #[.int .i64 a0_0, .int .i64 a0_1, .int .i64 a0_2] 23));have hs:IntKind.i64.wrap (a0_1+a0_2)=a0_1+a0_2:=by rw [IntKind.wrap_i64];omega
 have hne:((n:Int) !=a0_1+a0_2)=true:=by simpa using hn
 clear h hk hn;go_enter Tryz.func22,Tryz.ntmps22
 go_wp2_with fail
 generalize w.alloc (.cells #[.int .i64 a0_0, .int .i64 a0_1, .int .i64 a0_2] 23)=w0 at HB HX|-;refine (HM.out w0).mono ?_;rintro e w1 ⟨rfl,hB1⟩;have HB1:=Za (HB.out.trans (hB1.mono HB.out.size));have HX1:=aLz HX.out hB1;have q1:w1.cell? ⟨w.heap.size,1,none⟩=some (.int .i64 a0_1):=(aez HX1 1).trans rfl;have q2:w1.cell? ⟨w.heap.size,2,none⟩=some (.int .i64 a0_2):=(aez HX1 2).trans rfl;clear hB1 HX HX1;go_wp2;go_ret;exact ⟨rfl,HB1.out⟩
theorem bFz.go (k : Nat) (a0_0 : Int) (kk M n : Nat) (A1 : Option Addr) (c1 : Nat) (l1 t1 : List (List Int)) (t2 : Int) (r : Bool) (w : World) (h : aGz.f a0_0 (kk : Int) (M : Int) = some true) (hk : 1 <= kk /\ kk <= 1000 /\ 1 <= M /\ M <= 1000) (hn : n = kk + M) (hln : l1.length = n) (hc : n <= c1)
  (hr:Kd.C (dM 5 .u8) w A1 l1.length l1) (hp:aFz.f k a0_0 (kk:Int) (M:Int) (l1.take kk)=some (t1,t2)) (he:t2=0->eqFunc k t1 (l1.drop kk)=some r) (he2:t2≠0->r=false):
  Calls Tryz.prog 22 #[.agg #[.int .i64 a0_0, .int .i64 (kk:Int), .int .i64 (M:Int)], .slice A1 n c1] w fun e w'=>e= .returned (.bool r)/\Below w.heap.size w w':=by
 have HM:=Za (fun w=>aGz.calls a0_0 (kk:Int) (M:Int) true w h);have HE:=Za he;have HE2:=Za he2;have HP:=Za hp;have HR:=Za hr;have HLN:=Za hln;have hu:=Tryz.underlying23;have hu2:=Tryz.underlying24;have HB:=Za (aoz (Zw w.heap.size w) (.cells #[.int .i64 a0_0, .int .i64 (kk:Int), .int .i64 (M:Int)] 23));have HX:=Za (heap_alloc_new w (.cells #[.int .i64 a0_0, .int .i64 (kk:Int), .int .i64 (M:Int)] 23));have hs:IntKind.i64.wrap ((kk:Int)+(M:Int))=((kk+M:Nat):Int):=by rw [IntKind.wrap_i64];omega
 have hne:((n:Int) !=((kk+M:Nat):Int))=false:=by rw [hn];simp
 have hKn:kk<=n:=by omega
 clear h hk hn he he2 hp hr hln;go_enter Tryz.func22,Tryz.ntmps22
 go_wp2_with fail
 generalize w.alloc (.cells #[.int .i64 a0_0, .int .i64 (kk:Int), .int .i64 (M:Int)] 23)=w0 at HB HX|-;refine (HM.out w0).mono ?_;rintro e w1 ⟨rfl,hB1⟩;have HB1:=Za (HB.out.trans (hB1.mono HB.out.size));have HX1:=Za (aLz HX.out hB1);have q0:w1.cell? ⟨w.heap.size,0,none⟩=some (.int .i64 a0_0):=(aez HX1.out 0).trans rfl;have q1:w1.cell? ⟨w.heap.size,1,none⟩=some (.int .i64 (kk:Int)):=(aez HX1.out 1).trans rfl;have q2:w1.cell? ⟨w.heap.size,2,none⟩=some (.int .i64 (M:Int)):=(aez HX1.out 2).trans rfl;have hinfo:(Tryz.prog.info? 34).map (fun i=>i.size)=some 1:=by kernel_rfl
 obtain ⟨inf,hinf,hsz⟩:=Option.map_eq_some_iff.1 hinfo;have hcut:=cut_to3 (P:=Tryz.prog) 24 34 hu2 hinf A1 n c1 kk hKn hc;have htk:(l1.take kk).length=kk:=by rw [List.length_take,HLN.out];omega
 have HPA:=Za (show Calls Tryz.prog 19 #[.agg #[.int .i64 a0_0, .int .i64 (kk:Int), .int .i64 (M:Int)], .slice A1 kk kk] w1.drew _ from by
  have h1:=aFz.calls k a0_0 (kk:Int) (M:Int) A1 kk (l1.take kk) t1 t2 w1.drew (Kd.C_take (Kd.aMz HR.out HB1.out.drew) (by rw [HLN.out];exact hKn)) (by omega) HP.out;rw [htk] at h1
  exact h1)
 have hmo:Tryz.prog.follows .mixedOrders=true:=by kernel_rfl
 have hdl:(l1.drop kk).length=n - kk:=by rw [List.length_drop,HLN.out]
 have hcut2:=eLz (P:=Tryz.prog) 24 34 .i64 hu2 hinf 1 hsz A1 n c1 (kk:Int) (by omega) (by omega);have hdr:=Kd.C_drop (m:=kk) (c:=c1) HR.out (by rw [HLN.out];exact hKn) (by rw [HLN.out];exact hc);rw [show (dM 5 .u8).sz=1 from rfl,hdl] at hdr;simp only [Zu] at hcut2;generalize (if c1=kk then A1 else Option.map (fun x=>x.add (kk*1)) A1)=A4 at hcut2 hdr;have HDR:=Za hdr;have HDL:=Za hdl;obtain ⟨c4,hc4⟩: ∃c4,c1 - kk=c4:=⟨_,rfl⟩;obtain ⟨n4,hn4⟩: ∃n4,n - kk=n4:=⟨_,rfl⟩;rw [hc4,hn4] at hcut2;rw [hn4] at HDR HDL;clear hB1 HX HB HM hinfo hinf htk HP hsz hdl hdr hc4 hn4
 go_wp2_with fail
 refine bXz (n:=13) (S:=fun w'=>w'.cell? ⟨w.heap.size,0,none⟩=some (.int .i64 a0_0)/\w'.cell? ⟨w.heap.size,1,none⟩=some (.int .i64 (kk:Int))/\w'.cell? ⟨w.heap.size,2,none⟩=some (.int .i64 (M:Int))) (ds:= []) (bA 13 0) kr_ rfl rfl ⟨q0,q1,q2⟩ (fun hHeld=> ?_);refine pu_ 1 22 2 ?_;refine pu_ 2 23 6 ?_;refine pu_ 4 25 22 ?_;refine tk_ 0 21 23 hHeld ?_;refine tk_ 3 24 31 hHeld ?_;refine tk_ 5 26 63 hHeld ?_;refine pu_ 6 27 127 ?_;refine one_ (i:=7) (N:=some 28) (bA 13 255) rfl rfl kr_ (by decide) (fun K hK=> ?_);refine goes_ Tryz.func19 kr_ rfl #[.agg #[.int .i64 a0_0, .int .i64 (kk:Int), .int .i64 (M:Int)], .slice A1 kk kk] (by rfl) rfl rfl am_ ?_
 with_reducible refine (HPA.out).mono ?_
 rintro e w2 ⟨v,rfl,p3,p4⟩;refine ⟨_,rfl,?_⟩;have P3:=Za p3;have HB2:=Za (HB1.out.drew.trans (p4.mono HB1.out.drew.size));have HX2:=Za (aLz (show w1.drew.heap[w.heap.size]?=_ from HX1.out) p4);clear p3 p4;refine hK.out _ _ ⟨(aez HX2.out 0).trans rfl,(aez HX2.out 1).trans rfl,(aez HX2.out 2).trans rfl⟩ (fun hHeld=> ?_);clear hK K;refine norm_ (a':= ?_) ?_ ?_;rotate_left
 ·show Act.put _ (some 28) _=_;simp only [Act.put,Zg,Zh,Zi,i64_w,i32_w];rfl
 refine pu_ 8 20 511 ?_;refine pu_ 9 29 1023 ?_;refine pu_ 10 30 2047 ?_;refine pu_ 11 5 4095 ?_;refine pu_ 12 6 8191 ?_;refine done_ kr_ ?_;have q1:w2.cell? ⟨w.heap.size,1,none⟩=some (.int .i64 (kk:Int)):=hHeld.2.1;obtain ⟨A2,c2,rfl,l2,C2⟩:=Kd.S_reads P3.out;by_cases ht:t2=0
 ·subst ht
  have HEQ:=Za (show Calls Tryz.prog 53 #[.slice A2 t1.length c2, .slice A4 n4 c4, .func (.func 54) #[] #[]] w2 _ from by
   have h1:=eqFunc.calls k A2 A4 c2 c4 t1 (l1.drop kk) r w2 C2 (by have:=Kd.aMz HDR.out (HB2.out);rw [HDL.out];exact this) (HE.out rfl);rw [HDL.out] at h1
   exact h1)
  generalize t1.length=m1 at HEQ l2|-;clear C2 P3 HPA
  go_wp2_with fail
  refine HEQ.out.mono ?_;rintro e w3 ⟨rfl,q3⟩;have HB3:=Za (HB2.out.trans (q3.mono HB2.out.size));clear q3;go_wp2;go_ret;exact ⟨by cases r<;>rfl,HB3.out⟩
 ·have hne2:(t2==0)=false:=by simpa using ht
  have HRR:=Za (HE2.out ht);generalize t1.length=m1 at l2|-;clear C2 P3 HPA;go_wp2;go_ret;exact ⟨by rw [HRR.out];rfl,HB2.out⟩
theorem bFz.calls (k:Nat) (a0_0:Int) (a0_1:Int) (a0_2:Int) (A1:Option Addr) (c1:Nat) (l1:List (List Int)) (r:Bool) (w:World) (hr1:Kd.C (Kd.slice 5 (Kd.int .u8)) w A1 l1.length l1) (hc1:l1.length<=c1) (h:bFz.f k a0_0 a0_1 a0_2 l1=some r):
 Calls Tryz.prog 22 #[.agg #[.int .i64 a0_0, .int .i64 a0_1, .int .i64 a0_2], .slice A1 l1.length c1] w fun e w'=>e= .returned (.bool r)/\Below w.heap.size w w':=by
 unfold bFz.f at h;obtain ⟨b,hb⟩:=eqz a0_0 a0_1 a0_2;rw [hb] at h;simp only [Zl] at h
 cases b with
 |false=>
  rw [Yb (by decide)] at h;cases h
  exact bFz.nomay a0_0 a0_1 a0_2 A1 c1 l1.length w hb
 |true=>
  rw [Ya rfl] at h;obtain ⟨p1,p2,k1,k2,m1,m2⟩:=cpz hb;by_cases hl:(l1.length:Int)=a0_1+a0_2
  ·rw [Ya hl] at h;obtain ⟨kk,rfl⟩: ∃kk:Nat,a0_1=(kk:Int):=⟨a0_1.toNat,by omega⟩;obtain ⟨M,rfl⟩: ∃M:Nat,a0_2=(M:Int):=⟨a0_2.toNat,by omega⟩;rw [Zu] at h;obtain ⟨⟨t1,t2⟩,hp,h⟩:=Option.bind_eq_some_iff.1 h;exact bFz.go k a0_0 kk M l1.length A1 c1 l1 t1 t2 r w hb (by omega) (by omega) rfl hc1 hr1 hp (fun ht=>by dsimp only at h;rwa [Ya ht] at h) (fun ht=>by dsimp only at h;rw [Yb ht] at h;cases h;rfl)
  ·rw [Yb hl] at h;cases h
   exact bFz.nolen a0_0 a0_1 a0_2 A1 c1 l1.length w hb (by omega) hl
theorem C_numsF {k:IntKind} {w:World} {g:Nat} {t:TypeId} {xs:List Int} {fr:Nat×Nat} (h:w.heap[g]?=some (.cells (nums k xs).toArray t fr)) (hl:xs.length<=9223372036854775807):Kd.C (Kd.int k) w (some ⟨g,0,none⟩) xs.length xs:=by
 refine ⟨rfl,hl,fun _=>⟨_,rfl,fun j p hp=>⟨[.int k p],rfl,rfl,fun i u hu=> ?_⟩⟩⟩;obtain ⟨hj,rfl⟩:=Zk hp
 cases i with
 |succ i=>simp at hu
 |zero=>
  obtain rfl:Value.int k xs[j] =u:=by simpa using hu
  have e:(⟨g,0,none⟩:Addr).add (j*(Kd.int k).sz+0)=⟨g,j,none⟩:=by
   show (⟨g,0,none⟩:Addr).add (j*1+0)=_;unfold Addr.add;split<;>simp_all
  rw [e,cell_of_row w g j _ t fr h];simp [nums,hj]
def cmz.f (_:Nat):Option (Bool):=some true
def awake11.b:List Int:= [97,98,99,100,101,102,103,104,65,66,67,68,69,70,71,72]
def awake11.l:List (List Int):= [[97,98,99,100,101,102,103,104], [65,66,67,68,69,70,71,72], [32,32,32,32,32,32,32,32]]
theorem awake11.enc:cqz.f 199 1 2 1 awake11.b=some (awake11.l,0):=by kernel_rfl
theorem awake11.ver:bFz.f 199 1 2 1 awake11.l=some true:=by kernel_rfl
theorem cmz.calls (k:Nat) (r:Bool) (w:World) (h:cmz.f k=some r):
 Calls Tryz.prog 17 #[] w fun e w'=>e= .returned (.bool r)/\Below w.heap.size w w':=by
 obtain rfl:true=r:=by injection h
 clear h;have kc:=fun (w:World) (C:Array Value) (n c:Nat)=>Lib.run_convert_bytes_const (P:=Tryz.prog) w 34 5 C n c Tryz.underlying34 Tryz.underlying5
 have HE:=Za (fun (W:World) (A:Option Addr) (hr:Kd.C (Kd.int .u8) W A awake11.b.length awake11.b)=>cqz.calls 199 1 2 1 A 16 awake11.b awake11.l 0 W hr (by decide) awake11.enc);have HV:=Za (fun (W:World) (A:Option Addr) (c:Nat) (hr:Kd.C (Kd.slice 5 (Kd.int .u8)) W A awake11.l.length awake11.l) (hc:3<=c)=>bFz.calls 199 1 2 1 A c awake11.l true W hr hc awake11.ver);go_enter Tryz.func17,Tryz.ntmps17
 go_wp2_with fail
 refine (HE.out _ (some ⟨w.heap.size,0,none⟩) (C_numsF (fr:=(16,17)) (heap_alloc_new _ _) (by decide))).mono ?_;rintro e w1 ⟨v,rfl,q1,q2⟩;have HB1:=Za ((aoz (Zw _ _) _).trans (q2.mono (by simp)):Below w.heap.size w w1);obtain ⟨gg,c,rfl, -, -, -⟩:=Kd.N_form q1 (by decide);obtain ⟨-,hc,hC⟩:=Kd.btz q1;have HC:=Za hC;obtain ⟨ad,A2,c2,he,e2, -,C2⟩:=b9z hC 2 [32,32,32,32,32,32,32,32] rfl;obtain rfl:=Zn he;rw [show (⟨gg,0,none⟩:Addr).add 2=⟨gg,2,none⟩ by unfold Addr.add;split<;>simp_all] at e2;clear he;have hst:=Kd.C_string (P:=Tryz.prog) (c:=c2) Tryz.underlying34 Tryz.underlying5 Tryz.underlying9 C2;have hss:(strOfNums [32,32,32,32,32,32,32,32] :ByteArray)=⟨#[32,32,32,32,32,32,32,32]⟩:=by kernel_rfl
 rw [hss] at hst;have hl8:([32,32,32,32,32,32,32,32] :List Int).length=8:=rfl;rw [hl8] at hst e2;have hl3:awake11.l.length=3:=rfl;have HV1:=Za (HV.out w1 _ c HC.out hc);rw [hl3] at HV1 hc|-;clear q1 q2 hC C2 HE HV kc hss
 go_wp2_with fail
 refine HV1.out.mono ?_;rintro e w2 ⟨rfl,q2⟩;have HB2:=Za (HB1.out.trans (q2.mono HB1.out.size));clear q2;go_wp2;go_ret;exact ⟨rfl,HB2.out⟩
def a9z.l0:Nat->List (List Int)->List (List Int)->Int->Option (Bool)
 |0,_,_,_=>none
 |k+1,x0,x1,x5=>if x5<(x0.length:Int) then (if 0<=x5 then (if x5<(x1.length:Int) then (if (strOfNums (x0.getD x5.toNat [])).toList=(strOfNums (x1.getD x5.toNat [])).toList then (a9z.l0 k x0 x1 (wrap64 (x5+1))) else (some false)) else (none)) else (none)) else (some true)
def a9z.f (k:Nat) (l0:List (List Int)) (l1:List (List Int)):Option (Bool):=if (l0.length:Int)=(l1.length:Int) then (a9z.l0 k l0 l1 0) else (some false)
theorem a9z.calls (k : Nat) (A0 : Option Addr) (c0 : Nat) (l0 : List (List Int)) (A1 : Option Addr) (c1 : Nat) (l1 : List (List Int)) (r : Bool) (w : World) (hr0 : Kd.C (Kd.slice 5 (Kd.int .u8)) w A0 l0.length l0) (hc0 : l0.length <= c0) (hr1 : Kd.C (Kd.slice 5 (Kd.int .u8)) w A1 l1.length l1) (hc1 : l1.length <= c1) (h : a9z.f k l0 l1 = some r) :
  Calls Tryz.prog 21 #[.slice A0 l0.length c0, .slice A1 l1.length c1] w fun e w'=>e= .returned (.bool r)/\Drawn0 w w':=by
 have HR0:=Za hr0;have HR1:=Za hr1;unfold a9z.f at h;by_cases hl:(l0.length:Int)=(l1.length:Int)
 case neg=>
  rw [Yb hl] at h;obtain rfl:=Zn h;generalize l0.length=n0 at hl|-;generalize l1.length=n1 at hl|-;have b1:((n0:Int) !=(n1:Int))=true:=bne_iff_ne.2 hl;clear hl h hr0 hr1 hc0 hc1;go_enter Tryz.func21,Tryz.ntmps21;go_wp2;go_ret;exact ⟨rfl,Drawn0.refl _⟩
 rw [Ya hl] at h;obtain ⟨n,hn⟩: ∃n,l0.length=n:=⟨_,rfl⟩;have hn1:l1.length=n:=by omega
 have HN0:=Za hn;have HN1:=Za hn1;have HH:=Za h;have HM:=Za (show n<=9223372036854775807 from hn▸hr0.2.1);rw [hn] at HR0|-;rw [hn1] at HR1|-;have b1:((n:Int) !=(n:Int))=false:=by simp
 clear hl h hr0 hr1 hc0 hc1 hn hn1;go_enter Tryz.func21,Tryz.ntmps21;go_wp2
 go_loopw [5] (fun iv wr=> ∃i kk m:Nat,i<=n/\iv= .int .i64 (i:Int)/\wr=w.drewN m/\Aside0 (a9z.l0 kk l0 l1 (i:Int)=some r)) (fun iv _=>n - (intOf iv).toNat)
 case atStart=>exact ⟨0,k,0,Nat.zero_le _,rfl,rfl,HH⟩
 clear HH b1;obtain ⟨i,kk,m,hi,rfl,hwm,HH⟩:=hrel;have HWM:=Za hwm;have HRA:=Za (show Kd.C (Kd.slice 5 (Kd.int .u8)) wr A0 n l0 by rw [hwm];exact Kd.bzz HR0.out m);have HRB:=Za (show Kd.C (Kd.slice 5 (Kd.int .u8)) wr A1 n l1 by rw [hwm];exact Kd.bzz HR1.out m);clear hwm;obtain ⟨wq,rfl⟩: ∃wq,wq=wr:=⟨_,rfl⟩;have h:=HH.out;rcases kk with _|kk
 ·exact Yf h (by simp [a9z.l0])
 unfold a9z.l0 at h;by_cases hlt:i<n
 ·obtain ⟨x,hx⟩: ∃x,l0[i]?=some x:=⟨_,Zf (by have:=HN0.out;omega)⟩;obtain ⟨y,hy⟩: ∃y,l1[i]?=some y:=⟨_,Zf (by have:=HN1.out;omega)⟩;rw [Ya (by rw [HN0.out];omega),Ya (by omega),Ya (by rw [HN1.out];omega),Zu,Zm,hx,Zm,hy] at h;obtain ⟨ad,A',ca,rfl,hcx, -,hX⟩:=b9z (HN0.out.symm▸HRA.out) i x hx;obtain ⟨bd,B',cb,rfl,hcy, -,hY⟩:=b9z (HN1.out.symm▸HRB.out) i y hy;have hcv1:=Kd.C_string (P:=Tryz.prog) (A:=A') (c:=ca) Tryz.underlying34 Tryz.underlying5 Tryz.underlying9 (Kd.bzz hX 1);have hcv2:=Kd.C_string (P:=Tryz.prog) (A:=B') (c:=cb) Tryz.underlying34 Tryz.underlying5 Tryz.underlying9 (Kd.bzz hY 1);simp only [Option.getD_some] at h;generalize x.length=xl at hcx hcv1;generalize y.length=yl at hcy hcv2;have i1:(0:Int)<=(i:Int):=by omega
  have i2:(i:Int)<(n:Int):=by omega
  have hcv1':=hcv1;have hcv2':=hcv2;rw [show wq.drewN 1=wq.drew from rfl] at hcv1' hcv2';clear hx hy hX hY hcv1 hcv2;have HI2:=Za (show wrap64 ((i:Int)+1)=((i+1:Nat):Int) by have:=HM.out;unfold wrap64;omega);by_cases heq:(strOfNums x).toList=(strOfNums y).toList
  ·rw [Ya heq] at h;have e1:((strOfNums x).toList==(strOfNums y).toList)=true:=beq_iff_eq.2 heq;have e2:((strOfNums x).toList !=(strOfNums y).toList)=false:=bne_eq_false_iff_eq.2 heq;rw [HI2.out] at h;have HH2:=Za h;clear heq h;generalize strOfNums x=sx at hcv1' e1 e2;generalize strOfNums y=sy at hcv2' e1 e2
   go_wp2_with fail
   refine bXz (n:=11) (S:=fun w'=>w'.cell? (ad.add i)=some (.slice A' xl ca)/\w'.cell? (bd.add i)=some (.slice B' yl cb)) (ds:= []) (bA 11 0) kr_ rfl rfl ⟨hcx,hcy⟩ (fun hHeld=> ?_);refine pu_ 0 17 1 ?_;refine pu_ 1 18 3 ?_;refine pu_ 2 19 7 ?_;refine pu_ 5 22 39 ?_;refine pu_ 6 23 103 ?_;refine pu_ 7 24 231 ?_;refine tk_ 3 20 239 hHeld ?_;refine tk_ 8 25 495 hHeld ?_;refine join_ (σ:=Unit) 1 (bA 11 1023) (fun _=> [(21, .string sx),(26, .string sy)]) (fun _ w'=>w'=wq.drew) ?_ ?_;rotate_left
   ·intro hCont;refine two_ (i:=4) (j:=9) (Ni:=some 21) (Nj:=some 26) (bA 11 511) (bA 11 1007) rfl rfl rfl rfl kr_ (by decide) (by decide) (fun K hK=> ?_) (fun K hK=> ?_)
    ·skip
     refine ciz (w1:= ?_) (v:= ?_) (by rfl) rfl ?_ ?_;rotate_left 2
     ·go_simp;constructor
      ·rfl
      ·rfl
     refine hK.out _ _ ⟨hcx,hcy⟩ (fun hHeld=> ?_);clear hK K;refine norm_ (a':= ?_) ?_ ?_;rotate_left
     ·show Act.put _ (some 21) _=_;simp only [Act.put,Zg,Zh,Zi,i64_w,i32_w];rfl
     refine one_ (i:=9) (N:=some 26) (bA 11 1023) rfl rfl kr_ (by decide) (fun K hK=> ?_);refine ciz (w1:= ?_) (v:= ?_) (by rfl) rfl ?_ ?_;rotate_left 2
     ·go_simp;constructor
      ·rfl
      ·rfl
     refine hK.out _ _ ⟨hcx,hcy⟩ (fun hHeld=> ?_);clear hK K;refine norm_ (a':= ?_) ?_ ?_;rotate_left
     ·show Act.put _ (some 26) _=_;simp only [Act.put,Zg,Zh,Zi,i64_w,i32_w];rfl
     exact norm_ (by simp only [putAll,Act.put,Zg,Zh,Zi]) (hCont () _ rfl)
    ·skip
     refine ciz (w1:= ?_) (v:= ?_) (by rfl) rfl ?_ ?_;rotate_left 2
     ·go_simp;constructor
      ·rfl
      ·rfl
     refine hK.out _ _ ⟨hcx,hcy⟩ (fun hHeld=> ?_);clear hK K;refine norm_ (a':= ?_) ?_ ?_;rotate_left
     ·show Act.put _ (some 26) _=_;simp only [Act.put,Zg,Zh,Zi,i64_w,i32_w];rfl
     refine one_ (i:=4) (N:=some 21) (bA 11 1023) rfl rfl kr_ (by decide) (fun K hK=> ?_);refine ciz (w1:= ?_) (v:= ?_) (by rfl) rfl ?_ ?_;rotate_left 2
     ·go_simp;constructor
      ·rfl
      ·rfl
     refine hK.out _ _ ⟨hcx,hcy⟩ (fun hHeld=> ?_);clear hK K;refine norm_ (a':= ?_) ?_ ?_;rotate_left
     ·show Act.put _ (some 21) _=_;simp only [Act.put,Zg,Zh,Zi,i64_w,i32_w];rfl
     exact norm_ (by simp only [putAll,Act.put,Zg,Zh,Zi]) (hCont () _ rfl)
   rintro _ w' rfl;have hHeld:wq.drew.cell? (ad.add i)=some (.slice A' xl ca)/\wq.drew.cell? (bd.add i)=some (.slice B' yl cb):=⟨hcx,hcy⟩;refine norm_ (a':= ?_) ?_ ?_;rotate_left
   ·simp only [putAll,Act.put,Zg,Zh,Zi];rfl
   refine pu_ 10 27 2047 ?_;refine done_ kr_ ?_;go_wp2;go_roundw
   case rel=>exact ⟨i+1,kk,m+1,by omega,by rw [HI2.out],by rw [HWM.out];rfl,HH2⟩
   case measure=>rw [HI2.out];simp [intOf];omega
  ·rw [Yb heq] at h;obtain rfl:=Zn h;have e1:((strOfNums x).toList==(strOfNums y).toList)=false:=beq_eq_false_iff_ne.2 heq;have e2:((strOfNums x).toList !=(strOfNums y).toList)=true:=bne_iff_ne.2 heq;clear heq h;generalize strOfNums x=sx at hcv1' e1 e2;generalize strOfNums y=sy at hcv2' e1 e2
   go_wp2_with fail
   refine bXz (n:=11) (S:=fun w'=>w'.cell? (ad.add i)=some (.slice A' xl ca)/\w'.cell? (bd.add i)=some (.slice B' yl cb)) (ds:= []) (bA 11 0) kr_ rfl rfl ⟨hcx,hcy⟩ (fun hHeld=> ?_);refine pu_ 0 17 1 ?_;refine pu_ 1 18 3 ?_;refine pu_ 2 19 7 ?_;refine pu_ 5 22 39 ?_;refine pu_ 6 23 103 ?_;refine pu_ 7 24 231 ?_;refine tk_ 3 20 239 hHeld ?_;refine tk_ 8 25 495 hHeld ?_;refine join_ (σ:=Unit) 1 (bA 11 1023) (fun _=> [(21, .string sx),(26, .string sy)]) (fun _ w'=>w'=wq.drew) ?_ ?_;rotate_left
   ·intro hCont;refine two_ (i:=4) (j:=9) (Ni:=some 21) (Nj:=some 26) (bA 11 511) (bA 11 1007) rfl rfl rfl rfl kr_ (by decide) (by decide) (fun K hK=> ?_) (fun K hK=> ?_)
    ·skip
     refine ciz (w1:= ?_) (v:= ?_) (by rfl) rfl ?_ ?_;rotate_left 2
     ·go_simp;constructor
      ·rfl
      ·rfl
     refine hK.out _ _ ⟨hcx,hcy⟩ (fun hHeld=> ?_);clear hK K;refine norm_ (a':= ?_) ?_ ?_;rotate_left
     ·show Act.put _ (some 21) _=_;simp only [Act.put,Zg,Zh,Zi,i64_w,i32_w];rfl
     refine one_ (i:=9) (N:=some 26) (bA 11 1023) rfl rfl kr_ (by decide) (fun K hK=> ?_);refine ciz (w1:= ?_) (v:= ?_) (by rfl) rfl ?_ ?_;rotate_left 2
     ·go_simp;constructor
      ·rfl
      ·rfl
     refine hK.out _ _ ⟨hcx,hcy⟩ (fun hHeld=> ?_);clear hK K;refine norm_ (a':= ?_) ?_ ?_;rotate_left
     ·show Act.put _ (some 26) _=_;simp only [Act.put,Zg,Zh,Zi,i64_w,i32_w];rfl
     exact norm_ (by simp only [putAll,Act.put,Zg,Zh,Zi]) (hCont () _ rfl)
    ·skip
     refine ciz (w1:= ?_) (v:= ?_) (by rfl) rfl ?_ ?_;rotate_left 2
     ·go_simp;constructor
      ·rfl
      ·rfl
     refine hK.out _ _ ⟨hcx,hcy⟩ (fun hHeld=> ?_);clear hK K;refine norm_ (a':= ?_) ?_ ?_;rotate_left
     ·show Act.put _ (some 26) _=_;simp only [Act.put,Zg,Zh,Zi,i64_w,i32_w];rfl
     refine one_ (i:=4) (N:=some 21) (bA 11 1023) rfl rfl kr_ (by decide) (fun K hK=> ?_);refine ciz (w1:= ?_) (v:= ?_) (by rfl) rfl ?_ ?_;rotate_left 2
     ·go_simp;constructor
      ·rfl
      ·rfl
     refine hK.out _ _ ⟨hcx,hcy⟩ (fun hHeld=> ?_);clear hK K;refine norm_ (a':= ?_) ?_ ?_;rotate_left
     ·show Act.put _ (some 21) _=_;simp only [Act.put,Zg,Zh,Zi,i64_w,i32_w];rfl
     exact norm_ (by simp only [putAll,Act.put,Zg,Zh,Zi]) (hCont () _ rfl)
   rintro _ w' rfl;have hHeld:wq.drew.cell? (ad.add i)=some (.slice A' xl ca)/\wq.drew.cell? (bd.add i)=some (.slice B' yl cb):=⟨hcx,hcy⟩;refine norm_ (a':= ?_) ?_ ?_;rotate_left
   ·simp only [putAll,Act.put,Zg,Zh,Zi];rfl
   refine pu_ 10 27 2047 ?_;refine done_ kr_ ?_;go_wp2;go_ret;exact ⟨rfl,by rw [HWM.out];exact ⟨m+1,rfl⟩⟩
 ·rw [Yb (by rw [HN0.out];omega)] at h;obtain rfl:=Zn h;clear h;go_wp2;go_ret;exact ⟨rfl,m,HWM.out⟩
def bKz.f (k:Nat) (a0_0:Int) (a0_1:Int) (a0_2:Int) (l1:List Int):Option (Bool):=(cmz.f k).bind fun t867=>(if (l1.length:Int)>300 then (some t867) else ((cqz.f k a0_0 a0_1 a0_2 l1).bind fun bt868=>((cgz.f k a0_0 a0_1 a0_2 l1).bind fun bt872=>(if t867=true then ((a9z.f k bt868.1 bt872.1).bind fun t876=>(if t876=true then (some (bt868.2==bt872.2)) else (some false))) else (some false)))))
theorem bKz.calls (k : Nat) (a0_0 : Int) (a0_1 : Int) (a0_2 : Int) (A1 : Option Addr) (c1 : Nat) (l1 : List Int) (r : Bool) (w : World) (hr_ : Aside0 (r = true)) (hr1 : Kd.C (Kd.int .u8) w A1 l1.length l1) (hc1 : l1.length <= c1) (h : bKz.f k a0_0 a0_1 a0_2 l1 = some r) :
  Calls Tryz.prog 4 #[.agg #[.int .i64 a0_0, .int .i64 a0_1, .int .i64 a0_2], .slice A1 l1.length c1] w fun e w'=>e= .returned (.bool r)/\Below w.heap.size w w':=by
 have hu23:=Tryz.underlying23;have HR1:=Za hr1;have HC1:=Za hc1;clear hr1 hc1;have HB:=Za (Zw w.heap.size w);have H:=h;clear h;unfold bKz.f at H;obtain ⟨t867,A3,H⟩:=ob_ H
 (try dsimp only at H)
 by_cases c4:(l1.length:Int)>300
 ·rw [Ya c4] at H;have c4b0:decide (300<(l1.length:Int))=true:=Zd c4;have c4b1:decide (300<l1.length)=true:=Zd (by omega);clear c4;obtain rfl:=Zn H;go_enter Tryz.func4,Tryz.ntmps4
  go_wp2_with (first|((with_reducible refine aUz (N:=2) rfl ?_);refine bx_ 2 #[.int .i64 a0_0, .int .i64 a0_1, .int .i64 a0_2] 23 ?_;intro gb866 hg w5 hbox hb;have n_:=Zb (hs_ HB hb) (Zb (Za (hbox)) (Zb (ag_ HB gb866) (ag_ HB gb866)));clear HB;obtain ⟨HB,BK866,GW866,GE866⟩:=n_;clear hb hbox hg)|((with_reducible refine abz (f:=17) rfl ?_);refine gl_ (some 10) Tryz.func17 #[] ?_;(with_reducible refine (cmz.calls k  t867 _ A3.out).mono ?_);rintro e w6 ⟨rfl,hb⟩;refine ⟨_,rfl,?_⟩;have n_:=Zb (bb_ BK866 hb) (hs_ HB hb);clear BK866 HB;obtain ⟨BK866,HB⟩:=n_;(try clear hb)))
  go_ret;exact ⟨er_,bl_⟩
 ·rw [Yb c4] at H;have c4b0:decide (300<(l1.length:Int))=false:=Ze c4;have c4b1:decide (300<l1.length)=false:=Ze (by omega);clear c4;obtain ⟨⟨t868,t871⟩,A7,H⟩:=ob_ H
  (try dsimp only at H)
  obtain ⟨⟨t872,t875⟩,A8,H⟩:=ob_ H
  (try dsimp only at H)
  by_cases c9:t867=true
  rotate_left
  ·replace c9:=Zr c9;subst c9;rw [Yb (show¬(false=true) by decide)] at H;exact Yf ((Zn H).trans hr_.out) (by simp)
  subst c9;rw [Ya rfl] at H;obtain ⟨t876,A10,H⟩:=ob_ H
  (try dsimp only at H)
  by_cases c11:t876=true
  ·subst c11;rw [Ya rfl] at H;obtain rfl:=Zn H;go_enter Tryz.func4,Tryz.ntmps4
   go_wp2_with (first|((with_reducible refine aUz (N:=2) rfl ?_);refine bx_ 2 #[.int .i64 a0_0, .int .i64 a0_1, .int .i64 a0_2] 23 ?_;intro gb866 hg w12 hbox hb;have n_:=Zb (hs_ HB hb) (Zb (Za (hbox)) (Zb (ag_ HB gb866) (ag_ HB gb866)));clear HB;obtain ⟨HB,BK866,GW866,GE866⟩:=n_;clear hb hbox hg)|((with_reducible refine abz (f:=17) rfl ?_);refine gl_ (some 10) Tryz.func17 #[] ?_;(with_reducible refine (cmz.calls k  true _ A3.out).mono ?_);rintro e w13 ⟨rfl,hb⟩;refine ⟨_,rfl,?_⟩;have n_:=Zb (bb_ BK866 hb) (hs_ HB hb);clear BK866 HB;obtain ⟨BK866,HB⟩:=n_;(try clear hb);obtain ⟨hcz14_0,hfz14_0,hcz14_1,hfz14_1,hcz14_2,hfz14_2⟩:=bc3_ BK866.out)|((with_reducible refine abz (f:=24) rfl ?_);refine gl_ (some 18) Tryz.func24 #[.agg #[.int .i64 a0_0, .int .i64 a0_1, .int .i64 a0_2], .slice A1 l1.length c1] ?_;(with_reducible refine (cqz.calls k a0_0 a0_1 a0_2 _ _ l1 t868 t871 _ (xd_ (Kd.aMz HR1.out HB.out)) (HC1.out) A7.out).mono ?_);rintro e w15 ⟨v869,rfl,ho0,hb⟩;refine ⟨_,rfl,?_⟩;have n_:=Zb (Za (Kd.bUz (Kd.bRz (ok':=fun k_=>k_≠gb866) ho0 (fun k_ hk_=>(Kd.freshB (g:=gb866) (o:= .cells #[.int .i64 a0_0, .int .i64 a0_1, .int .i64 a0_2] 23 (0,0)) bk_ k_ hk_))) (acz bl_))) (Zb (bb_ BK866 hb) (hs_ HB hb));clear BK866 HB;obtain ⟨HO870,BK866,HB⟩:=n_;clear hb ho0;obtain ⟨hcz16_0,hfz16_0,hcz16_1,hfz16_1,hcz16_2,hfz16_2⟩:=bc3_ BK866.out)|((with_reducible refine abz (f:=25) rfl ?_);refine gl_ (some 24) Tryz.func25 #[.agg #[.int .i64 a0_0, .int .i64 a0_1, .int .i64 a0_2], .slice A1 l1.length c1] ?_;(with_reducible refine (cgz.calls k a0_0 a0_1 a0_2 _ _ l1 t872 t875 _ (xd_ (Kd.aMz HR1.out HB.out)) (HC1.out) A8.out).mono ?_);rintro e w17 ⟨v873,rfl,ho0,hb⟩;refine ⟨_,rfl,?_⟩;have n_:=Zb (Za (Kd.b5z (xd_ HO870.out) (Kd.cTz ho0) hb)) (Zb (Za (Kd.bUz (Kd.bRz (ok':=fun k_=>some k_≠(v869:Value).ownBlock/\k_≠gb866) ho0 (fun k_ hk_=>⟨(Kd.fresh' (Kd.N_lt (xd_ HO870.out)) k_ hk_),(Kd.freshB (g:=gb866) (o:= .cells #[.int .i64 a0_0, .int .i64 a0_1, .int .i64 a0_2] 23 (0,0)) bk_ k_ hk_)⟩)) (acz bl_))) (Zb (bb_ BK866 hb) (hs_ HB hb)));clear HO870 BK866 HB;obtain ⟨HO870,HO874,BK866,HB⟩:=n_;clear hb ho0;obtain ⟨Ao18,co18,eo18⟩:=Kd.clz HO870.out;subst eo18;obtain ⟨Ao19,co19,eo19⟩:=Kd.clz HO874.out;subst eo19)|(go_at_call 21;(with_reducible refine (a9z.calls k _ _ t868 _ _ t872 true _ (xd_ (Kd.btz HO870.out).2.2) ((Kd.btz HO870.out).2.1) (xd_ (Kd.btz HO874.out).2.2) ((Kd.btz HO874.out).2.1) A10.out).mono ?_);rintro e w' ⟨rfl,⟨nd,rfl⟩⟩))
   go_ret;exact ⟨er_,bl_⟩
  ·replace c11:=Zr c11;subst c11;rw [Yb (show¬(false=true) by decide)] at H;exact Yf ((Zn H).trans hr_.out) (by simp)
def dHz.f (l0_0:List (List Int)) (a0_1:Int) (a1:Int):Option (Int×Int×Int):=some (a1,a0_1,wrap64 ((l0_0.length:Int) - a0_1))
def cBz.f (k:Nat) (l0_0:List (List Int)) (a0_1:Int) (a1:Int):Option (Bool):=if 0<(l0_0.length:Int) then ((a1z.f k a1 8 1 0).bind fun bt141=>(if ((rd_L1 l0_0 0).length:Int)>0 then (if bt141.1=0 then (none) else (some ((((rd_L1 l0_0 0).length:Int) % bt141.1)==0))) else (some false))) else (none)
def b8z.f (k:Nat) (l0_0:List (List Int)) (a0_1:Int) (a1:Int):Option (Bool):=(dHz.f l0_0 a0_1 a1).bind fun bt144=>((aGz.f bt144.1 bt144.2.1 bt144.2.2).bind fun t148=>(if t148=true then ((cBz.f k l0_0 a0_1 a1).bind fun t149=>(if t149=true then ((bFz.f k bt144.1 bt144.2.1 bt144.2.2 l0_0).bind fun t150=>(some t150)) else (some false))) else (some false)))
def bMz.l0:Nat->List Int->Int->Option (List Int)
 |0,_,_=>none
 |k+1,x1,x3=>if x3<6 then (if x1.length<17592186044416 then (bMz.l0 k (x1++ [wrap64 (x3+1)]) (wrap64 (x3+1))) else (none)) else (some x1)
def bMz.f (k:Nat)  :Option (List Int):=bMz.l0 k ([] :List Int) 0
theorem bMz.aWz: ∀k,(∀y0 y1,LeO (bMz.l0 k y0 y1) (bMz.l0 (k+1) y0 y1))
 |0=>fun _ _ r h=>by simp [bMz.l0] at h
 |k+1=>by
  have ih0:=bMz.aWz k
  ·intro y0 y1;unfold bMz.l0
   repeat' with_reducible first|apply ih0|apply LeO.refl|apply LeO.none|apply LeO.ite|refine LeO.bind ?_ fun _=>?_
theorem bMz.mono: ∀k,LeO (bMz.f k) (bMz.f (k+1)):=by
 intro  k;have ih0:=bMz.aWz k;unfold bMz.f
 repeat' with_reducible first|apply ih0|apply LeO.refl|apply LeO.none|apply LeO.ite|refine LeO.bind ?_ fun _=>?_
end Go.Proofs.Xc
end
