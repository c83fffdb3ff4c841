-- Joined texts of this work (wip/tools/bundle.py).
import Derived.Test.YtpdakdcmahlghaaGreatBCodecEncodes16
set_option maxHeartbeats 8000000
set_option maxRecDepth 100000
set_option linter.unusedVariables false
set_option linter.unusedSimpArgs false
section
namespace Go.Proofs.Xc
open Go.RowKit Go.Proofs.Pw Go.Proofs.Pl Go.Proofs.Pm
attribute [local go_sem] baz bbz bmz bnz a2z a3z bcz bdz
mutual
def ajz.j0:Nat->Int->Int->List Int->List Int->Bool->Option ((List (List Int))×Bool)
 |0,_,_,_,_,_=>none
 |k+1,x0,x1,x2,x3,x36=>if x36=true then (some (([] :List (List Int)),false)) else ((some (([] :List Int):List Int)).bind fun y592=>(if y592.length+x2.length<17592186044416 then ((some (y592++x2:List Int)).bind fun y595=>(if y595.length+x3.length<17592186044416 then (ajz.l0 k x0 x1 x2 x3 (y595++x3) 0) else (none))) else (none)))
def ajz.l0:Nat->Int->Int->List Int->List Int->List Int->Int->Option ((List (List Int))×Bool)
 |0,_,_,_,_,_,_=>none
 |k+1,x0,x1,x2,x3,x10,x11=>if x11<(x10.length:Int) then (if 0<=x11 then ((afz.f k x0 (rd x10 x11)).bind fun t602=>(if t602=true then (ajz.l1 k x0 x1 x2 x3 x10 x11 0) else (some (([] :List (List Int)),false)))) else (none)) else (ajz.l2 k x0 x1 x2 x3 ([] :List (List Int)) 0)
def ajz.l1:Nat->Int->Int->List Int->List Int->List Int->Int->Int->Option ((List (List Int))×Bool)
 |0,_,_,_,_,_,_,_=>none
 |k+1,x0,x1,x2,x3,x10,x11,x12=>if x12<x11 then (if 0<=x11 then (if x11<(x10.length:Int) then (if 0<=x12 then (if x12<(x10.length:Int) then (if (rd x10 x11)=(rd x10 x12) then (some (([] :List (List Int)),false)) else (ajz.l1 k x0 x1 x2 x3 x10 x11 (wrap64 (x12+1)))) else (none)) else (none)) else (none)) else (none)) else (ajz.l0 k x0 x1 x2 x3 x10 (wrap64 (x11+1)))
def ajz.l2:Nat->Int->Int->List Int->List Int->List (List Int)->Int->Option ((List (List Int))×Bool)
 |0,_,_,_,_,_,_=>none
 |k+1,x0,x1,x2,x3,x13,x14=>if x14<(x2.length:Int) then (ajz.l3 k x0 x1 x2 x3 x13 x14 ([] :List Int) 0) else (some (x13,true))
def ajz.l3:Nat->Int->Int->List Int->List Int->List (List Int)->Int->List Int->Int->Option ((List (List Int))×Bool)
 |0,_,_,_,_,_,_,_,_=>none
 |k+1,x0,x1,x2,x3,x13,x14,x15,x16=>if x16<(x3.length:Int) then (if 0<=x14 then (if x14<(x2.length:Int) then (if 0<=x16 then ((auz.f k x0 x1 (Go.bits .xor .i64 (rd x2 x14) (rd x3 x16))).bind fun bt607=>(if x15.length<17592186044416 then (ajz.l3 k x0 x1 x2 x3 x13 x14 (x15++ [bt607.1]) (wrap64 (x16+1))) else (none))) else (none)) else (none)) else (none)) else (if x13.length<5864062014805 then (ajz.l2 k x0 x1 x2 x3 (x13++ [x15]) (wrap64 (x14+1))) else (none))
end
def ajz.f (k:Nat) (a0:Int) (a1:Int) (l2:List Int) (l3:List Int):Option ((List (List Int))×Bool):=if (l2.length:Int)<1 then (ajz.j0 k a0 a1 l2 l3 true) else (if (l2.length:Int)>20 then (ajz.j0 k a0 a1 l2 l3 true) else (if (l3.length:Int)<1 then (ajz.j0 k a0 a1 l2 l3 true) else (ajz.j0 k a0 a1 l2 l3 (decide ((l3.length:Int)>20)))))
theorem ajz.aWz: ∀k,(∀y0 y1 y2 y3 y4,LeO (ajz.j0 k y0 y1 y2 y3 y4) (ajz.j0 (k+1) y0 y1 y2 y3 y4))/\(∀y0 y1 y2 y3 y4 y5,LeO (ajz.l0 k y0 y1 y2 y3 y4 y5) (ajz.l0 (k+1) y0 y1 y2 y3 y4 y5))/\(∀y0 y1 y2 y3 y4 y5 y6,LeO (ajz.l1 k y0 y1 y2 y3 y4 y5 y6) (ajz.l1 (k+1) y0 y1 y2 y3 y4 y5 y6))/\(∀y0 y1 y2 y3 y4 y5,LeO (ajz.l2 k y0 y1 y2 y3 y4 y5) (ajz.l2 (k+1) y0 y1 y2 y3 y4 y5))/\(∀y0 y1 y2 y3 y4 y5 y6 y7,LeO (ajz.l3 k y0 y1 y2 y3 y4 y5 y6 y7) (ajz.l3 (k+1) y0 y1 y2 y3 y4 y5 y6 y7))
 |0=>⟨fun _ _ _ _ _ r h=>by simp [ajz.j0] at h,fun _ _ _ _ _ _ r h=>by simp [ajz.l0] at h,fun _ _ _ _ _ _ _ r h=>by simp [ajz.l1] at h,fun _ _ _ _ _ _ r h=>by simp [ajz.l2] at h,fun _ _ _ _ _ _ _ _ r h=>by simp [ajz.l3] at h⟩
 |k+1=>by
  obtain ⟨ih0,ih1,ih2,ih3,ih4⟩:=ajz.aWz k;refine ⟨?_,?_,?_,?_,?_⟩
  ·intro y0 y1 y2 y3 y4;unfold ajz.j0
   repeat' with_reducible first|apply ih0|apply ih1|apply ih2|apply ih3|apply ih4|apply afz.mono|apply auz.mono|apply LeO.refl|apply LeO.none|apply LeO.ite|refine LeO.bind ?_ fun _=>?_
  ·intro y0 y1 y2 y3 y4 y5;unfold ajz.l0
   repeat' with_reducible first|apply ih0|apply ih1|apply ih2|apply ih3|apply ih4|apply afz.mono|apply auz.mono|apply LeO.refl|apply LeO.none|apply LeO.ite|refine LeO.bind ?_ fun _=>?_
  ·intro y0 y1 y2 y3 y4 y5 y6;unfold ajz.l1
   repeat' with_reducible first|apply ih0|apply ih1|apply ih2|apply ih3|apply ih4|apply afz.mono|apply auz.mono|apply LeO.refl|apply LeO.none|apply LeO.ite|refine LeO.bind ?_ fun _=>?_
  ·intro y0 y1 y2 y3 y4 y5;unfold ajz.l2
   repeat' with_reducible first|apply ih0|apply ih1|apply ih2|apply ih3|apply ih4|apply afz.mono|apply auz.mono|apply LeO.refl|apply LeO.none|apply LeO.ite|refine LeO.bind ?_ fun _=>?_
  ·intro y0 y1 y2 y3 y4 y5 y6 y7;unfold ajz.l3
   repeat' with_reducible first|apply ih0|apply ih1|apply ih2|apply ih3|apply ih4|apply afz.mono|apply auz.mono|apply LeO.refl|apply LeO.none|apply LeO.ite|refine LeO.bind ?_ fun _=>?_
theorem ajz.mono: ∀a0 a1 a2 a3 k,LeO (ajz.f k a0 a1 a2 a3) (ajz.f (k+1) a0 a1 a2 a3):=by
 intro a0 a1 a2 a3 k;obtain ⟨ih0,ih1,ih2,ih3,ih4⟩:=ajz.aWz k;unfold ajz.f
 repeat' with_reducible first|apply ih0|apply ih1|apply ih2|apply ih3|apply ih4|apply afz.mono|apply auz.mono|apply LeO.refl|apply LeO.none|apply LeO.ite|refine LeO.bind ?_ fun _=>?_
theorem ajz.calls (k : Nat) (a0 : Int) (a1 : Int) (A2 : Option Addr) (c2 : Nat) (l2 : List Int) (A3 : Option Addr) (c3 : Nat) (l3 : List Int) (r1 : List (List Int)) (r2 : Bool) (w : World) (hr2 : Kd.C (Kd.int .i64) w A2 l2.length l2) (hc2 : l2.length <= c2) (hr3 : Kd.C (Kd.int .i64) w A3 l3.length l3) (hc3 : l3.length <= c3) (h : ajz.f k a0 a1 l2 l3 = some (r1, r2)) :
  Calls Tryz.prog 130 #[.int .i64 a0, .int .u32 a1, .slice A2 l2.length c2, .slice A3 l3.length c3] w fun e w'=> ∃v0_:Value,e= .returned (.tuple #[v0_, .bool r2])/\Kd.S (Kd.slice 3 (Kd.int .i64)) 57 w' w.heap.size (fun _=>True) v0_ r1/\Below w.heap.size w w':=by
 have HR2:=Za hr2;have HC2:=Za hc2;clear hr2 hc2;have HR3:=Za hr3;have HC3:=Za hc3;clear hr3 hc3;have HB:=Za (Zw w.heap.size w);have H:=h;clear h;unfold ajz.f at H;have HC5:=Za H;clear H;go_enter Tryz.func130,Tryz.ntmps130
 go_upto_region 1 with (fail)
 repeat (go_quiet (fail);go_upto_region 1 with (fail))
 go_cut [36] (fun v36 wc=> ∃(kq:Nat) (x36_4:Bool),v36= .bool x36_4/\Aside0 (ajz.j0 kq a0 a1 l2 l3 x36_4=some (r1,r2))/\Aside0 (kq<=k)/\Aside0 (Below w.heap.size w wc))
 case first=>
  have H:=HC5.out;clear HC5;by_cases c6:(l2.length:Int)<1
  ·rw [Ya c6] at H;have c6b0:=Zd c6;have c6b1:decide (l2.length<1)=true:=Zd (by omega);clear c6
   (first|rw [c6b0] |(simp only [i64_w,i32_w];rw [c6b0])|skip)
   have H':=Za H;clear H;go_wp2
   repeat (go_quiet (fail);try go_wp2)
   go_meet
   case rel=>exact ⟨_,(true),sd_,H',⟨by first|omega|exact Zv _⟩,⟨bl_⟩⟩
  ·rw [Yb c6] at H;have c6b0:=Ze c6;have c6b1:decide (l2.length<1)=false:=Ze (by omega);clear c6
   (first|rw [c6b0] |(simp only [i64_w,i32_w];rw [c6b0])|skip)
   by_cases c7:(l2.length:Int)>20
   ·rw [Ya c7] at H;have c7b0:decide (20<(l2.length:Int))=true:=Zd c7;have c7b1:decide (20<l2.length)=true:=Zd (by omega);clear c7;have H':=Za H;clear H;go_wp2
    repeat (go_quiet (fail);try go_wp2)
    go_meet
    case rel=>exact ⟨_,(true),sd_,H',⟨by first|omega|exact Zv _⟩,⟨bl_⟩⟩
   ·rw [Yb c7] at H;have c7b0:decide (20<(l2.length:Int))=false:=Ze c7;have c7b1:decide (20<l2.length)=false:=Ze (by omega);clear c7;by_cases c8:(l3.length:Int)<1
    ·rw [Ya c8] at H;have c8b0:=Zd c8;have c8b1:decide (l3.length<1)=true:=Zd (by omega);clear c8;have H':=Za H;clear H;go_wp2
     repeat (go_quiet (fail);try go_wp2)
     go_meet
     case rel=>exact ⟨_,(true),sd_,H',⟨by first|omega|exact Zv _⟩,⟨bl_⟩⟩
    ·rw [Yb c8] at H;have c8b0:=Ze c8;have c8b1:decide (l3.length<1)=false:=Ze (by omega);clear c8;have H':=Za H;clear H;go_wp2
     repeat (go_quiet (fail);try go_wp2)
     go_meet
     case rel=>exact ⟨_,(decide ((l3.length:Int)>20)),sd_,H',⟨by first|omega|exact Zv _⟩,⟨bl_⟩⟩
 case rest=>
  clear HC5
  try clear c1
  try clear c2
  try clear p2
  try clear c3
  try clear c6
  try clear c6b0
  try clear c6b1
  try clear c7
  try clear c7b0
  try clear c7b1
  try clear c8
  try clear c8b0
  try clear c8b1
  obtain ⟨kq,x36_4,rfl,HA,HJ4,HB⟩:=hcut;rcases kq with _|kj4
  ·exact Yf HA.out (by simp [ajz.j0])
  have H:=HA.out;clear HA;simp only [ajz.j0] at H;by_cases c9:x36_4=true
  ·subst c9;rw [Ya rfl] at H;simp only [Zx,Zy] at H;obtain ⟨rfl,rfl⟩:=H;go_wp2
   repeat (go_quiet (fail);try go_wp2)
   go_ret2;exact ⟨_,er_,nl_,bl_⟩
  ·replace c9:=Zr c9;subst c9;rw [Yb (show¬(false=true) by decide)] at H;obtain ⟨y592,hy592⟩: ∃y_:List Int,y_=(([] :List Int)):=⟨_,rfl⟩
   first|rw [Zl, <-hy592] at H|rw [<-hy592] at H
   (try dsimp only at H)
   have Ny592:=Za hy592;clear hy592;by_cases c10:y592.length+l2.length<17592186044416
   rotate_left
   ·rw [Yb c10] at H;exact Yf H (by simp)
   rw [Ya c10] at H;have LMc10:=Za c10;clear c10;obtain ⟨y595,hy595⟩: ∃y_:List Int,y_=(y592++l2):=⟨_,rfl⟩
   first|rw [Zl, <-hy595] at H|rw [<-hy595] at H
   (try dsimp only at H)
   have Ny595:=Za hy595;clear hy595;by_cases c11:y595.length+l3.length<17592186044416
   rotate_left
   ·rw [Yb c11] at H;exact Yf H (by simp)
   rw [Ya c11] at H;have LMc11:=Za c11;clear c11;obtain ⟨y598,hy598⟩: ∃y_:List Int,y_=(y595++l3):=⟨_,rfl⟩
   first|rw [Zl, <-hy598] at H|rw [<-hy598] at H
   (try dsimp only at H)
   have Ny598:=Za hy598;clear hy598;have H':=Za H;clear H
   go_wp2_with (first|((with_reducible refine aUz (N:=37) rfl ?_);(try (refine a5z (by rfl) ?_;dsimp only));refine Kd.R_lit (Kd.int .i64) _ 3 ?hg (N:=37) ?hd (xs:=([] :List Int)) (inner:= []) (ok:=fun _=>True) (okp:=fun _=>True) ?hr ?hp (fun _ hk=>hk) trivial (Zw _ _) (Zv _) (by simp) ?_;(case hd=>rfl);(case hg=>rfl);(case hr=>first|(go_simp;done)|(go_simp;rfl));(case hp=>exact (Reps.none _ _));intro v593 w12 ho13 hb hg_ hnew_;clear hg_ hnew_;(first|rw [<-Ny592.out] at ho13|(simp only [Int.reduceToNat] at ho13;rw [<-Ny592.out] at ho13));have n_:=Zb (Za (Kd.bGz ho13 (acz bl_))) (hs_ HB hb);clear HB;obtain ⟨HO594,HB⟩:=n_;clear hb ho13)|((with_reducible refine anz (b:= .append) (xs:= #[.tmp 37, .tmp 38]) rfl ?_);(try (refine a5z (by rfl) ?_;dsimp only));at_builtin;refine Kd.bVz (Kd.int .i64) (w0:=w) w.heap.size rfl (.tmp 37) (.tmp 38) 57 3 (.int .i64 0) 8 rfl Tryz.underlying57 info3 rfl (by decide) (by omega) v593 y592 l2 _ _ _ (fun _=>True) (fun _=>False) rfl rfl ?aO ?aR (fun _ _ h=>h) (fun _ h=>h.elim) ?aF ?aB ?aS ?aL ?_;(case aR=>repeat (first|exact (Kd.aMz HR2.out HB.out)|(with_reducible refine Kd.b2z ?_ _)|(with_reducible refine Kd.bzz ?_ _)|(with_reducible refine Kd.ckz ?_)));(case aB=>exact bl_);(case aF=>exact (fun _ _=>trivial));(case aO=>exact (xd_ HO594.out));(case aS=>exact (acz bl_));(case aL=>have:=LMc10.out;omega);intro v596 w14 ho hb hg hat;rw [<-Ny595.out] at ho;have n_:=Zb (Za (hb)) (Za (ho));clear HB HO594;obtain ⟨HB,HO597⟩:=n_;clear ho hb hg hat)|((with_reducible refine anz (b:= .append) (xs:= #[.tmp 40, .tmp 41]) rfl ?_);(try (refine a5z (by rfl) ?_;dsimp only));at_builtin;refine Kd.bVz (Kd.int .i64) (w0:=w) w.heap.size rfl (.tmp 40) (.tmp 41) 57 3 (.int .i64 0) 8 rfl Tryz.underlying57 info3 rfl (by decide) (by omega) v596 y595 l3 _ _ _ (fun _=>True) (fun _=>False) rfl rfl ?aO ?aR (fun _ _ h=>h) (fun _ h=>h.elim) ?aF ?aB ?aS ?aL ?_;(case aR=>repeat (first|exact (Kd.aMz HR3.out HB.out)|(with_reducible refine Kd.b2z ?_ _)|(with_reducible refine Kd.bzz ?_ _)|(with_reducible refine Kd.ckz ?_)));(case aB=>exact bl_);(case aF=>exact (fun _ _=>trivial));(case aO=>exact (xd_ HO597.out));(case aS=>exact (acz bl_));(case aL=>have:=LMc11.out;omega);intro v599 w15 ho hb hg hat;rw [<-Ny598.out] at ho;have n_:=Zb (Za (hb)) (Za (ho));clear HB HO597;obtain ⟨HB,HO600⟩:=n_;clear ho hb hg hat))
   repeat (go_quiet (first|((with_reducible refine aUz (N:=37) rfl ?_);(try (refine a5z (by rfl) ?_;dsimp only));refine Kd.R_lit (Kd.int .i64) _ 3 ?hg (N:=37) ?hd (xs:=([] :List Int)) (inner:= []) (ok:=fun _=>True) (okp:=fun _=>True) ?hr ?hp (fun _ hk=>hk) trivial (Zw _ _) (Zv _) (by simp) ?_;(case hd=>rfl);(case hg=>rfl);(case hr=>first|(go_simp;done)|(go_simp;rfl));(case hp=>exact (Reps.none _ _));intro v593 w12 ho13 hb hg_ hnew_;clear hg_ hnew_;(first|rw [<-Ny592.out] at ho13|(simp only [Int.reduceToNat] at ho13;rw [<-Ny592.out] at ho13));have n_:=Zb (Za (Kd.bGz ho13 (acz bl_))) (hs_ HB hb);clear HB;obtain ⟨HO594,HB⟩:=n_;clear hb ho13)|((with_reducible refine anz (b:= .append) (xs:= #[.tmp 37, .tmp 38]) rfl ?_);(try (refine a5z (by rfl) ?_;dsimp only));at_builtin;refine Kd.bVz (Kd.int .i64) (w0:=w) w.heap.size rfl (.tmp 37) (.tmp 38) 57 3 (.int .i64 0) 8 rfl Tryz.underlying57 info3 rfl (by decide) (by omega) v593 y592 l2 _ _ _ (fun _=>True) (fun _=>False) rfl rfl ?aO ?aR (fun _ _ h=>h) (fun _ h=>h.elim) ?aF ?aB ?aS ?aL ?_;(case aR=>repeat (first|exact (Kd.aMz HR2.out HB.out)|(with_reducible refine Kd.b2z ?_ _)|(with_reducible refine Kd.bzz ?_ _)|(with_reducible refine Kd.ckz ?_)));(case aB=>exact bl_);(case aF=>exact (fun _ _=>trivial));(case aO=>exact (xd_ HO594.out));(case aS=>exact (acz bl_));(case aL=>have:=LMc10.out;omega);intro v596 w14 ho hb hg hat;rw [<-Ny595.out] at ho;have n_:=Zb (Za (hb)) (Za (ho));clear HB HO594;obtain ⟨HB,HO597⟩:=n_;clear ho hb hg hat)|((with_reducible refine anz (b:= .append) (xs:= #[.tmp 40, .tmp 41]) rfl ?_);(try (refine a5z (by rfl) ?_;dsimp only));at_builtin;refine Kd.bVz (Kd.int .i64) (w0:=w) w.heap.size rfl (.tmp 40) (.tmp 41) 57 3 (.int .i64 0) 8 rfl Tryz.underlying57 info3 rfl (by decide) (by omega) v596 y595 l3 _ _ _ (fun _=>True) (fun _=>False) rfl rfl ?aO ?aR (fun _ _ h=>h) (fun _ h=>h.elim) ?aF ?aB ?aS ?aL ?_;(case aR=>repeat (first|exact (Kd.aMz HR3.out HB.out)|(with_reducible refine Kd.b2z ?_ _)|(with_reducible refine Kd.bzz ?_ _)|(with_reducible refine Kd.ckz ?_)));(case aB=>exact bl_);(case aF=>exact (fun _ _=>trivial));(case aO=>exact (xd_ HO597.out));(case aS=>exact (acz bl_));(case aL=>have:=LMc11.out;omega);intro v599 w15 ho hb hg hat;rw [<-Ny598.out] at ho;have n_:=Zb (Za (hb)) (Za (ho));clear HB HO597;obtain ⟨HB,HO600⟩:=n_;clear ho hb hg hat));try go_wp2_with (first|((with_reducible refine aUz (N:=37) rfl ?_);(try (refine a5z (by rfl) ?_;dsimp only));refine Kd.R_lit (Kd.int .i64) _ 3 ?hg (N:=37) ?hd (xs:=([] :List Int)) (inner:= []) (ok:=fun _=>True) (okp:=fun _=>True) ?hr ?hp (fun _ hk=>hk) trivial (Zw _ _) (Zv _) (by simp) ?_;(case hd=>rfl);(case hg=>rfl);(case hr=>first|(go_simp;done)|(go_simp;rfl));(case hp=>exact (Reps.none _ _));intro v593 w12 ho13 hb hg_ hnew_;clear hg_ hnew_;(first|rw [<-Ny592.out] at ho13|(simp only [Int.reduceToNat] at ho13;rw [<-Ny592.out] at ho13));have n_:=Zb (Za (Kd.bGz ho13 (acz bl_))) (hs_ HB hb);clear HB;obtain ⟨HO594,HB⟩:=n_;clear hb ho13)|((with_reducible refine anz (b:= .append) (xs:= #[.tmp 37, .tmp 38]) rfl ?_);(try (refine a5z (by rfl) ?_;dsimp only));at_builtin;refine Kd.bVz (Kd.int .i64) (w0:=w) w.heap.size rfl (.tmp 37) (.tmp 38) 57 3 (.int .i64 0) 8 rfl Tryz.underlying57 info3 rfl (by decide) (by omega) v593 y592 l2 _ _ _ (fun _=>True) (fun _=>False) rfl rfl ?aO ?aR (fun _ _ h=>h) (fun _ h=>h.elim) ?aF ?aB ?aS ?aL ?_;(case aR=>repeat (first|exact (Kd.aMz HR2.out HB.out)|(with_reducible refine Kd.b2z ?_ _)|(with_reducible refine Kd.bzz ?_ _)|(with_reducible refine Kd.ckz ?_)));(case aB=>exact bl_);(case aF=>exact (fun _ _=>trivial));(case aO=>exact (xd_ HO594.out));(case aS=>exact (acz bl_));(case aL=>have:=LMc10.out;omega);intro v596 w14 ho hb hg hat;rw [<-Ny595.out] at ho;have n_:=Zb (Za (hb)) (Za (ho));clear HB HO594;obtain ⟨HB,HO597⟩:=n_;clear ho hb hg hat)|((with_reducible refine anz (b:= .append) (xs:= #[.tmp 40, .tmp 41]) rfl ?_);(try (refine a5z (by rfl) ?_;dsimp only));at_builtin;refine Kd.bVz (Kd.int .i64) (w0:=w) w.heap.size rfl (.tmp 40) (.tmp 41) 57 3 (.int .i64 0) 8 rfl Tryz.underlying57 info3 rfl (by decide) (by omega) v596 y595 l3 _ _ _ (fun _=>True) (fun _=>False) rfl rfl ?aO ?aR (fun _ _ h=>h) (fun _ h=>h.elim) ?aF ?aB ?aS ?aL ?_;(case aR=>repeat (first|exact (Kd.aMz HR3.out HB.out)|(with_reducible refine Kd.b2z ?_ _)|(with_reducible refine Kd.bzz ?_ _)|(with_reducible refine Kd.ckz ?_)));(case aB=>exact bl_);(case aF=>exact (fun _ _=>trivial));(case aO=>exact (xd_ HO597.out));(case aS=>exact (acz bl_));(case aL=>have:=LMc11.out;omega);intro v599 w15 ho hb hg hat;rw [<-Ny598.out] at ho;have n_:=Zb (Za (hb)) (Za (ho));clear HB HO597;obtain ⟨HB,HO600⟩:=n_;clear ho hb hg hat)))
   go_loopg [11] kj4 (fun kq v11 w'=> ∃(x11_2:Int),v11= .int .i64 x11_2/\Aside0 (ajz.l0 kq a0 a1 l2 l3 y598 x11_2=some (r1,r2))/\Aside0 (kq<=kj4)/\Aside0 (Kd.R (Kd.int .i64) 3 w' w.heap.size (fun _=>True) v599 y598)/\Aside0 (Below w.heap.size w w'))
   case atStart=>exact ⟨(0),sd_,H',⟨Zv _⟩,⟨xd_ HO600.out⟩,⟨bl_⟩⟩
   clear H'
   try clear c1
   try clear c2
   try clear p2
   try clear c3
   try clear c6
   try clear c6b0
   try clear c6b1
   try clear c7
   try clear c7b0
   try clear c7b1
   try clear c8
   try clear c8b0
   try clear c8b1
   try clear c9
   try clear c10
   try clear c11
   try clear c13
   try clear p2
   obtain ⟨x11_2,rfl,HA,HK2,HO_10,HB⟩:=hrel;rcases gk with _|k2
   ·exact Yf HA.out (by simp [ajz.l0])
   have H:=HA.out;clear HA;simp only [ajz.l0] at H;by_cases c16:x11_2<(y598.length:Int)
   ·rw [Ya c16] at H;have c16b0:=Zd c16;clear c16;by_cases c17:0<=x11_2
    rotate_left
    ·rw [Yb c17] at H;exact Yf H (by simp)
    rw [Ya c17] at H;have c17b0:=Zd c17;clear c17;obtain ⟨t602,A18,H⟩:=ob_ H
    (try dsimp only at H)
    by_cases c19:t602=true
    rotate_left
    ·replace c19:=Zr c19;subst c19;rw [Yb (show¬(false=true) by decide)] at H;simp only [Zx,Zy] at H;obtain ⟨rfl,rfl⟩:=H;obtain ⟨Ao27,co27,eo27⟩:=Kd.a7z HO_10.out;subst eo27;have p601:0<=(x11_2:Int):=Zc as_;have q601:x11_2<(y598.length:Int):=Zc as_;obtain ⟨ad601,e601,hx601_0⟩:=Kd.bqz (Kd.aSz HO_10.out).2.2 x11_2 p601 q601;cases e601
     replace p601:=Zz p601;replace q601:=Zz q601
     go_wp2_with (first|(go_at_call 106;(with_reducible refine (afz.calls k2 a0 (rd y598 x11_2) false _ A18.out).mono ?_);rintro e w' ⟨rfl,⟨nd,rfl⟩⟩;(try first|exact ⟨rfl,_,World.drewN_drewN _ _ _⟩|exact ⟨rfl,_,Eq.trans (World.drewN_drewN _ _ _) (congrArg (World.drewN _) (Nat.add_assoc _ _ _))⟩)))
     repeat (go_quiet (first|(go_at_call 106;(with_reducible refine (afz.calls k2 a0 (rd y598 x11_2) false _ A18.out).mono ?_);rintro e w' ⟨rfl,⟨nd,rfl⟩⟩;(try first|exact ⟨rfl,_,World.drewN_drewN _ _ _⟩|exact ⟨rfl,_,Eq.trans (World.drewN_drewN _ _ _) (congrArg (World.drewN _) (Nat.add_assoc _ _ _))⟩)));try go_wp2_with (first|(go_at_call 106;(with_reducible refine (afz.calls k2 a0 (rd y598 x11_2) false _ A18.out).mono ?_);rintro e w' ⟨rfl,⟨nd,rfl⟩⟩;(try first|exact ⟨rfl,_,World.drewN_drewN _ _ _⟩|exact ⟨rfl,_,Eq.trans (World.drewN_drewN _ _ _) (congrArg (World.drewN _) (Nat.add_assoc _ _ _))⟩))))
     go_ret2;exact ⟨_,er_,nl_,bl_⟩
    subst c19;rw [Ya rfl] at H;have H':=Za H;clear H;obtain ⟨Ao20,co20,eo20⟩:=Kd.a7z HO_10.out;subst eo20;have p601:0<=(x11_2:Int):=Zc as_;have q601:x11_2<(y598.length:Int):=Zc as_;obtain ⟨ad601,e601,hx601_0⟩:=Kd.bqz (Kd.aSz HO_10.out).2.2 x11_2 p601 q601;cases e601
    replace p601:=Zz p601;replace q601:=Zz q601
    go_wp2_with (first|(go_at_call 106;(with_reducible refine (afz.calls k2 a0 (rd y598 x11_2) true _ A18.out).mono ?_);rintro e w' ⟨rfl,⟨nd,rfl⟩⟩;(try first|exact ⟨rfl,_,World.drewN_drewN _ _ _⟩|exact ⟨rfl,_,Eq.trans (World.drewN_drewN _ _ _) (congrArg (World.drewN _) (Nat.add_assoc _ _ _))⟩)))
    repeat (go_quiet (first|(go_at_call 106;(with_reducible refine (afz.calls k2 a0 (rd y598 x11_2) true _ A18.out).mono ?_);rintro e w' ⟨rfl,⟨nd,rfl⟩⟩;(try first|exact ⟨rfl,_,World.drewN_drewN _ _ _⟩|exact ⟨rfl,_,Eq.trans (World.drewN_drewN _ _ _) (congrArg (World.drewN _) (Nat.add_assoc _ _ _))⟩)));try go_wp2_with (first|(go_at_call 106;(with_reducible refine (afz.calls k2 a0 (rd y598 x11_2) true _ A18.out).mono ?_);rintro e w' ⟨rfl,⟨nd,rfl⟩⟩;(try first|exact ⟨rfl,_,World.drewN_drewN _ _ _⟩|exact ⟨rfl,_,Eq.trans (World.drewN_drewN _ _ _) (congrArg (World.drewN _) (Nat.add_assoc _ _ _))⟩))))
    go_loopg [12] k2 (fun kq v12 w'=> ∃(x12_3:Int),v12= .int .i64 x12_3/\Aside0 (ajz.l1 kq a0 a1 l2 l3 y598 x11_2 x12_3=some (r1,r2))/\Aside0 (kq<=k2)/\Aside0 (Kd.R (Kd.int .i64) 3 w' w.heap.size (fun _=>True) (.slice (some ad601) y598.length co20) y598)/\Aside0 (Below w.heap.size w w'))
    case atStart=>exact ⟨(0),sd_,H',⟨Zv _⟩,⟨xd_ HO_10.out⟩,⟨bl_⟩⟩
    clear H'
    try clear c1
    try clear c2
    try clear p2
    try clear c3
    try clear c6
    try clear c6b0
    try clear c6b1
    try clear p6
    try clear q6
    try clear hx6
    try clear c7
    try clear c7b0
    try clear c7b1
    try clear c8
    try clear c8b0
    try clear c8b1
    try clear c9
    try clear c10
    try clear c11
    try clear c13
    try clear c16
    try clear c16b0
    try clear c17
    try clear c17b0
    try clear c19
    try clear hx601_0
    try clear p2
    try clear p601
    try clear q601
    obtain ⟨x12_3,rfl,HA,HK3,HO_10,HB⟩:=hrel;rcases gk with _|k3
    ·exact Yf HA.out (by simp [ajz.l1])
    have H:=HA.out;clear HA;simp only [ajz.l1] at H;by_cases c21:x12_3<x11_2
    rotate_left
    ·rw [Yb c21] at H;have c21b0:=Ze c21;clear c21;have H':=Za H;clear H;go_wp2
     repeat (go_quiet (fail);try go_wp2)
     go_roundg k3
     case measure=>have:=HJ4.out;have:=HK2.out;have:=HK3.out;omega
     case rel=>exact ⟨(wrap64 (x11_2+1)),sd_,H',⟨by have:=HJ4.out;have:=HK2.out;have:=HK3.out;omega⟩,⟨xd_ HO_10.out⟩,⟨bl_⟩⟩
    rw [Ya c21] at H;have c21b0:=Zd c21;clear c21;by_cases c22:0<=x11_2
    rotate_left
    ·rw [Yb c22] at H;exact Yf H (by simp)
    rw [Ya c22] at H;have c22b0:=Zd c22;clear c22;by_cases c23:x11_2<(y598.length:Int)
    rotate_left
    ·rw [Yb c23] at H;exact Yf H (by simp)
    rw [Ya c23] at H;have c23b0:=Zd c23;clear c23;by_cases c24:0<=x12_3
    rotate_left
    ·rw [Yb c24] at H;exact Yf H (by simp)
    rw [Ya c24] at H;have c24b0:=Zd c24;clear c24;by_cases c25:x12_3<(y598.length:Int)
    rotate_left
    ·rw [Yb c25] at H;exact Yf H (by simp)
    rw [Ya c25] at H;have c25b0:=Zd c25;clear c25;by_cases c26:(rd y598 x11_2)=(rd y598 x12_3)
    ·rw [Ya c26] at H;have c26b0:((rd y598 x11_2)==(rd y598 x12_3))=true:=Ye c26;have c26b1:((rd y598 x11_2) !=(rd y598 x12_3))=false:=Yc c26;clear c26;simp only [Zx,Zy] at H;obtain ⟨rfl,rfl⟩:=H;have p603:0<=(x11_2:Int):=Zc as_;have q603:x11_2<(y598.length:Int):=Zc as_;obtain ⟨ad603,e603,hx603_0⟩:=Kd.bqz (Kd.aSz HO_10.out).2.2 x11_2 p603 q603;obtain rfl:ad601=ad603:=(by injection e603);replace p603:=Zz p603;replace q603:=Zz q603;have p604:0<=(x12_3:Int):=Zc as_;have q604:x12_3<(y598.length:Int):=Zc as_;obtain ⟨ad604,e604,hx604_0⟩:=Kd.bqz (Kd.aSz HO_10.out).2.2 x12_3 p604 q604;obtain rfl:ad601=ad604:=(by injection e604);replace p604:=Zz p604;replace q604:=Zz q604;go_wp2
     repeat (go_quiet (fail);try go_wp2)
     go_ret2;exact ⟨_,er_,nl_,bl_⟩
    ·rw [Yb c26] at H;have c26b0:((rd y598 x11_2)==(rd y598 x12_3))=false:=Zq c26;have c26b1:((rd y598 x11_2) !=(rd y598 x12_3))=true:=Yd c26;have H':=Za H;clear H;have p603:0<=(x11_2:Int):=Zc as_;have q603:x11_2<(y598.length:Int):=Zc as_;obtain ⟨ad603,e603,hx603_0⟩:=Kd.bqz (Kd.aSz HO_10.out).2.2 x11_2 p603 q603;obtain rfl:ad601=ad603:=(by injection e603);replace p603:=Zz p603;replace q603:=Zz q603;have p604:0<=(x12_3:Int):=Zc as_;have q604:x12_3<(y598.length:Int):=Zc as_;obtain ⟨ad604,e604,hx604_0⟩:=Kd.bqz (Kd.aSz HO_10.out).2.2 x12_3 p604 q604;obtain rfl:ad601=ad604:=(by injection e604);replace p604:=Zz p604;replace q604:=Zz q604;go_wp2
     repeat (go_quiet (fail);try go_wp2)
     go_roundg k3
     case measure=>have:=HJ4.out;have:=HK2.out;have:=HK3.out;omega
     case rel=>exact ⟨(wrap64 (x12_3+1)),sd_,H',⟨by have:=HJ4.out;have:=HK2.out;have:=HK3.out;omega⟩,⟨xd_ HO_10.out⟩,⟨bl_⟩⟩
   ·rw [Yb c16] at H;have c16b0:=Ze c16;clear c16;have H':=Za H;clear H;obtain ⟨Ao28,co28,eo28⟩:=Kd.a7z HO_10.out;subst eo28;go_wp2
    repeat (go_quiet (fail);try go_wp2)
    go_loopg [13,14] k2 (fun kq v13 v14 w'=> ∃(x13_3:List (List Int)) (x14_3:Int),v14= .int .i64 x14_3/\Aside0 (ajz.l2 kq a0 a1 l2 l3 x13_3 x14_3=some (r1,r2))/\Aside0 (kq<=k2)/\Aside0 (Kd.S (Kd.slice 3 (Kd.int .i64)) 57 w' w.heap.size (fun _=>True) v13 x13_3)/\Aside0 (Below w.heap.size w w'))
    case atStart=>exact ⟨(([] :List (List Int))),(0),sd_,H',⟨Zv _⟩,⟨nl_⟩,⟨bl_⟩⟩
    clear H'
    try clear c1
    try clear c2
    try clear p2
    try clear c3
    try clear c6
    try clear c6b0
    try clear c6b1
    try clear p6
    try clear q6
    try clear hx6
    try clear c7
    try clear c7b0
    try clear c7b1
    try clear c8
    try clear c8b0
    try clear c8b1
    try clear c9
    try clear c10
    try clear c11
    try clear c13
    try clear c16
    try clear c16b0
    try clear c17
    try clear c17b0
    try clear c19
    try clear c21
    try clear c21b0
    try clear c22
    try clear c22b0
    try clear c23
    try clear c23b0
    try clear c24
    try clear c24b0
    try clear c25
    try clear c25b0
    try clear c26
    try clear c26b0
    try clear c26b1
    try clear hx601_0
    try clear hx603_0
    try clear hx604_0
    try clear p2
    try clear p6
    try clear p601
    try clear p603
    try clear p604
    try clear q6
    try clear q601
    try clear q603
    try clear q604
    obtain ⟨x13_3,x14_3,rfl,HA,HK3,HO_13,HB⟩:=hrel;rcases gk with _|k3
    ·exact Yf HA.out (by simp [ajz.l2])
    have H:=HA.out;clear HA;simp only [ajz.l2] at H;by_cases c29:x14_3<(l2.length:Int)
    rotate_left
    ·rw [Yb c29] at H;have c29b0:=Ze c29;clear c29;simp only [Zx,Zy] at H;obtain ⟨rfl,rfl⟩:=H;go_wp2
     repeat (go_quiet (fail);try go_wp2)
     go_ret2;exact ⟨_,er_,xd_ HO_13.out,bl_⟩
    rw [Ya c29] at H;have c29b0:=Zd c29;clear c29;have H':=Za H;clear H;go_wp2
    repeat (go_quiet (fail);try go_wp2)
    go_loopg [15,16] k3 (fun kq v15 v16 w'=> ∃(x15_4:List Int) (x16_4:Int),v16= .int .i64 x16_4/\Aside0 (ajz.l3 kq a0 a1 l2 l3 x13_3 x14_3 x15_4 x16_4=some (r1,r2))/\Aside0 (kq<=k3)/\Aside0 (Kd.S (Kd.slice 3 (Kd.int .i64)) 57 w' w.heap.size (fun k_=>some k_≠(v15:Value).ownBlock) u13 x13_3)/\Aside0 (Kd.R (Kd.int .i64) 3 w' w.heap.size (fun _=>True) v15 x15_4)/\Aside0 (Below w.heap.size w w'))
    case atStart=>exact ⟨(([] :List Int)),(0),sd_,H',⟨Zv _⟩,⟨sm_ HO_13⟩,⟨nl_⟩,⟨bl_⟩⟩
    clear H'
    try clear c1
    try clear c2
    try clear p2
    try clear c3
    try clear c6
    try clear c6b0
    try clear c6b1
    try clear p6
    try clear q6
    try clear hx6
    try clear c7
    try clear c7b0
    try clear c7b1
    try clear c8
    try clear c8b0
    try clear c8b1
    try clear c9
    try clear c10
    try clear c11
    try clear c13
    try clear c16
    try clear c16b0
    try clear c17
    try clear c17b0
    try clear c19
    try clear c21
    try clear c21b0
    try clear c22
    try clear c22b0
    try clear c23
    try clear c23b0
    try clear c24
    try clear c24b0
    try clear c25
    try clear c25b0
    try clear c26
    try clear c26b0
    try clear c26b1
    try clear c29
    try clear c29b0
    try clear hx601_0
    try clear hx603_0
    try clear hx604_0
    try clear p2
    try clear p6
    try clear p601
    try clear p603
    try clear p604
    try clear q6
    try clear q601
    try clear q603
    try clear q604
    obtain ⟨x15_4,x16_4,rfl,HA,HK4,HO_13,HO_15,HB⟩:=hrel;rcases gk with _|k4
    ·exact Yf HA.out (by simp [ajz.l3])
    have H:=HA.out;clear HA;simp only [ajz.l3] at H;by_cases c30:x16_4<(l3.length:Int)
    rotate_left
    ·rw [Yb c30] at H;have c30b0:=Ze c30;clear c30;by_cases c37:x13_3.length<5864062014805
     rotate_left
     ·rw [Yb c37] at H;exact Yf H (by simp)
     rw [Ya c37] at H;have LMc37:=Za c37;clear c37;obtain ⟨y612,hy612⟩: ∃y_:List (List Int),y_=(x13_3++ [x15_4]):=⟨_,rfl⟩
     first|rw [Zl, <-hy612] at H|rw [<-hy612] at H
     (try dsimp only at H)
     have Ny612:=Za hy612;clear hy612;have H':=Za H;clear H;obtain ⟨Ao39,co39,eo39⟩:=Kd.a7z HO_15.out;subst eo39
     go_wp2_with (first|((with_reducible refine anz (b:= .append) (xs:= #[.tmp 101, .tmp 103]) rfl ?_);(try (refine a5z (by rfl) ?_;dsimp only));at_builtin;refine Kd.bPz (Kd.slice 3 (Kd.int .i64)) (w0:=w) w.heap.size rfl (.tmp 101) (.tmp 103) 68 57 (.slice none 0 0) 24 rfl Tryz.underlying68 info57 rfl (by decide) (by omega) u13 x13_3 x15_4 [.slice Ao39 x15_4.length co39] (fun _=>True) (fun k_=>some k_=(.slice Ao39 x15_4.length co39:Value).ownBlock) rfl rfl ?aP (fun k_ hk_=>((Kd.aQz (ok':=fun k_=>((fun _=>True)) k_/\some k_≠(u13:Value).ownBlock) (Kd.bpz (HO_15.out) (Kd.bBz HO_13.out) (by decide)) (fun k_ hk=>⟨trivial,hk.2⟩))).1 k_ hk_.symm) ?aF ?aO ?aB ?aS ?aL ?_;(case aP=>exact Kd.M_row (Kd.aQz (Kd.b3z rfl (Kd.aQz (ok':=fun k_=>((fun _=>True)) k_/\some k_≠(u13:Value).ownBlock) (Kd.bpz (HO_15.out) (Kd.bBz HO_13.out) (by decide)) (fun k_ hk=>⟨trivial,hk.2⟩))) (fun _ h_=>h_)));(case aB=>exact bl_);(case aF=>exact (fun _ _=>trivial));(case aO=>exact (sm_ HO_13));(case aS=>exact (acz bl_));(case aL=>have:=LMc37.out;omega);intro v613 w38 ho hb hg hat;rw [<-Ny612.out] at ho;have n_:=Zb (Za (hb)) (Za (ho));clear HB HO_13 HO_15;obtain ⟨HB,HO614⟩:=n_;clear ho hb hg hat))
     repeat (go_quiet (first|((with_reducible refine anz (b:= .append) (xs:= #[.tmp 101, .tmp 103]) rfl ?_);(try (refine a5z (by rfl) ?_;dsimp only));at_builtin;refine Kd.bPz (Kd.slice 3 (Kd.int .i64)) (w0:=w) w.heap.size rfl (.tmp 101) (.tmp 103) 68 57 (.slice none 0 0) 24 rfl Tryz.underlying68 info57 rfl (by decide) (by omega) u13 x13_3 x15_4 [.slice Ao39 x15_4.length co39] (fun _=>True) (fun k_=>some k_=(.slice Ao39 x15_4.length co39:Value).ownBlock) rfl rfl ?aP (fun k_ hk_=>((Kd.aQz (ok':=fun k_=>((fun _=>True)) k_/\some k_≠(u13:Value).ownBlock) (Kd.bpz (HO_15.out) (Kd.bBz HO_13.out) (by decide)) (fun k_ hk=>⟨trivial,hk.2⟩))).1 k_ hk_.symm) ?aF ?aO ?aB ?aS ?aL ?_;(case aP=>exact Kd.M_row (Kd.aQz (Kd.b3z rfl (Kd.aQz (ok':=fun k_=>((fun _=>True)) k_/\some k_≠(u13:Value).ownBlock) (Kd.bpz (HO_15.out) (Kd.bBz HO_13.out) (by decide)) (fun k_ hk=>⟨trivial,hk.2⟩))) (fun _ h_=>h_)));(case aB=>exact bl_);(case aF=>exact (fun _ _=>trivial));(case aO=>exact (sm_ HO_13));(case aS=>exact (acz bl_));(case aL=>have:=LMc37.out;omega);intro v613 w38 ho hb hg hat;rw [<-Ny612.out] at ho;have n_:=Zb (Za (hb)) (Za (ho));clear HB HO_13 HO_15;obtain ⟨HB,HO614⟩:=n_;clear ho hb hg hat));try go_wp2_with (first|((with_reducible refine anz (b:= .append) (xs:= #[.tmp 101, .tmp 103]) rfl ?_);(try (refine a5z (by rfl) ?_;dsimp only));at_builtin;refine Kd.bPz (Kd.slice 3 (Kd.int .i64)) (w0:=w) w.heap.size rfl (.tmp 101) (.tmp 103) 68 57 (.slice none 0 0) 24 rfl Tryz.underlying68 info57 rfl (by decide) (by omega) u13 x13_3 x15_4 [.slice Ao39 x15_4.length co39] (fun _=>True) (fun k_=>some k_=(.slice Ao39 x15_4.length co39:Value).ownBlock) rfl rfl ?aP (fun k_ hk_=>((Kd.aQz (ok':=fun k_=>((fun _=>True)) k_/\some k_≠(u13:Value).ownBlock) (Kd.bpz (HO_15.out) (Kd.bBz HO_13.out) (by decide)) (fun k_ hk=>⟨trivial,hk.2⟩))).1 k_ hk_.symm) ?aF ?aO ?aB ?aS ?aL ?_;(case aP=>exact Kd.M_row (Kd.aQz (Kd.b3z rfl (Kd.aQz (ok':=fun k_=>((fun _=>True)) k_/\some k_≠(u13:Value).ownBlock) (Kd.bpz (HO_15.out) (Kd.bBz HO_13.out) (by decide)) (fun k_ hk=>⟨trivial,hk.2⟩))) (fun _ h_=>h_)));(case aB=>exact bl_);(case aF=>exact (fun _ _=>trivial));(case aO=>exact (sm_ HO_13));(case aS=>exact (acz bl_));(case aL=>have:=LMc37.out;omega);intro v613 w38 ho hb hg hat;rw [<-Ny612.out] at ho;have n_:=Zb (Za (hb)) (Za (ho));clear HB HO_13 HO_15;obtain ⟨HB,HO614⟩:=n_;clear ho hb hg hat)))
     go_roundg k4
     case measure=>have:=HJ4.out;have:=HK2.out;have:=HK3.out;have:=HK4.out;omega
     case rel=>exact ⟨(y612),(wrap64 (x14_3+1)),sd_,H',⟨by have:=HJ4.out;have:=HK2.out;have:=HK3.out;have:=HK4.out;omega⟩,⟨xd_ HO614.out⟩,⟨bl_⟩⟩
    rw [Ya c30] at H;have c30b0:=Zd c30;clear c30;by_cases c31:0<=x14_3
    rotate_left
    ·rw [Yb c31] at H;exact Yf H (by simp)
    rw [Ya c31] at H;have c31b0:=Zd c31;clear c31;by_cases c32:x14_3<(l2.length:Int)
    rotate_left
    ·rw [Yb c32] at H;exact Yf H (by simp)
    rw [Ya c32] at H;have c32b0:=Zd c32;clear c32;by_cases c33:0<=x16_4
    rotate_left
    ·rw [Yb c33] at H;exact Yf H (by simp)
    rw [Ya c33] at H;have c33b0:=Zd c33;clear c33;obtain ⟨⟨t607,t608⟩,A34,H⟩:=ob_ H
    (try dsimp only at H)
    by_cases c35:x15_4.length<17592186044416
    rotate_left
    ·rw [Yb c35] at H;exact Yf H (by simp)
    rw [Ya c35] at H;have LMc35:=Za c35;clear c35;obtain ⟨y609,hy609⟩: ∃y_:List Int,y_=(x15_4++ [t607]):=⟨_,rfl⟩
    first|rw [Zl, <-hy609] at H|rw [<-hy609] at H
    (try dsimp only at H)
    have Ny609:=Za hy609;clear hy609;have H':=Za H;clear H;have p605:0<=(x14_3:Int):=Zc as_;have q605:x14_3<(l2.length:Int):=Zc as_;obtain ⟨ad605,e605,hx605_0⟩:=Kd.bqz HR2.out x14_3 p605 q605;cases e605
    replace hx605_0:=(HB.out.cell (Zj w _ hx605_0)).trans hx605_0;replace p605:=Zz p605;replace q605:=Zz q605;have p606:0<=(x16_4:Int):=Zc as_;have q606:x16_4<(l3.length:Int):=Zc as_;obtain ⟨ad606,e606,hx606_0⟩:=Kd.bqz HR3.out x16_4 p606 q606;cases e606
    replace hx606_0:=(HB.out.cell (Zj w _ hx606_0)).trans hx606_0;replace p606:=Zz p606;replace q606:=Zz q606
    go_wp2_with (first|(go_at_call 146;(with_reducible refine (auz.calls k4 a0 a1 (Go.bits .xor .i64 (rd l2 x14_3) (rd l3 x16_4)) t607 t608 _ A34.out).mono ?_);rintro e w' ⟨rfl,⟨nd,rfl⟩⟩;(try first|exact ⟨rfl,_,World.drewN_drewN _ _ _⟩|exact ⟨rfl,_,Eq.trans (World.drewN_drewN _ _ _) (congrArg (World.drewN _) (Nat.add_assoc _ _ _))⟩))|((with_reducible refine anz (b:= .append) (xs:= #[.tmp 97, .tmp 99]) rfl ?_);(try (refine a5z (by rfl) ?_;dsimp only));at_builtin;refine Kd.bjz (Kd.int .i64) (w0:=w) w.heap.size rfl (.tmp 97) (.tmp 99) 57 3 (.int .i64 0) 8 rfl Tryz.underlying57 info3 rfl (by decide) (by omega) u15 x15_4 t607 [.int .i64 t607] (fun _=>True) (fun _=>False) rfl rfl ?aP (fun _ hk=>hk.elim) ?aF ?aO ?aB ?aS ?aL ?_;(case aP=>exact rfl);(case aB=>exact bl_);(case aF=>exact (fun _ _=>trivial));(case aO=>exact (xd_ HO_15.out));(case aS=>exact (acz bl_));(case aL=>have:=LMc35.out;omega);intro v610 w36 ho hb hg hat;rw [<-Ny609.out] at ho;have n_:=Zb (Za (Kd.cwz (ok:=(fun _=>True)) (sm_ HO_13) hg hat)) (Zb (Za (hb)) (Za (ho)));clear HO_13 HB HO_15;obtain ⟨HO_13,HB,HO611⟩:=n_;clear ho hb hg hat))
    repeat (go_quiet (first|(go_at_call 146;(with_reducible refine (auz.calls k4 a0 a1 (Go.bits .xor .i64 (rd l2 x14_3) (rd l3 x16_4)) t607 t608 _ A34.out).mono ?_);rintro e w' ⟨rfl,⟨nd,rfl⟩⟩;(try first|exact ⟨rfl,_,World.drewN_drewN _ _ _⟩|exact ⟨rfl,_,Eq.trans (World.drewN_drewN _ _ _) (congrArg (World.drewN _) (Nat.add_assoc _ _ _))⟩))|((with_reducible refine anz (b:= .append) (xs:= #[.tmp 97, .tmp 99]) rfl ?_);(try (refine a5z (by rfl) ?_;dsimp only));at_builtin;refine Kd.bjz (Kd.int .i64) (w0:=w) w.heap.size rfl (.tmp 97) (.tmp 99) 57 3 (.int .i64 0) 8 rfl Tryz.underlying57 info3 rfl (by decide) (by omega) u15 x15_4 t607 [.int .i64 t607] (fun _=>True) (fun _=>False) rfl rfl ?aP (fun _ hk=>hk.elim) ?aF ?aO ?aB ?aS ?aL ?_;(case aP=>exact rfl);(case aB=>exact bl_);(case aF=>exact (fun _ _=>trivial));(case aO=>exact (xd_ HO_15.out));(case aS=>exact (acz bl_));(case aL=>have:=LMc35.out;omega);intro v610 w36 ho hb hg hat;rw [<-Ny609.out] at ho;have n_:=Zb (Za (Kd.cwz (ok:=(fun _=>True)) (sm_ HO_13) hg hat)) (Zb (Za (hb)) (Za (ho)));clear HO_13 HB HO_15;obtain ⟨HO_13,HB,HO611⟩:=n_;clear ho hb hg hat));try go_wp2_with (first|(go_at_call 146;(with_reducible refine (auz.calls k4 a0 a1 (Go.bits .xor .i64 (rd l2 x14_3) (rd l3 x16_4)) t607 t608 _ A34.out).mono ?_);rintro e w' ⟨rfl,⟨nd,rfl⟩⟩;(try first|exact ⟨rfl,_,World.drewN_drewN _ _ _⟩|exact ⟨rfl,_,Eq.trans (World.drewN_drewN _ _ _) (congrArg (World.drewN _) (Nat.add_assoc _ _ _))⟩))|((with_reducible refine anz (b:= .append) (xs:= #[.tmp 97, .tmp 99]) rfl ?_);(try (refine a5z (by rfl) ?_;dsimp only));at_builtin;refine Kd.bjz (Kd.int .i64) (w0:=w) w.heap.size rfl (.tmp 97) (.tmp 99) 57 3 (.int .i64 0) 8 rfl Tryz.underlying57 info3 rfl (by decide) (by omega) u15 x15_4 t607 [.int .i64 t607] (fun _=>True) (fun _=>False) rfl rfl ?aP (fun _ hk=>hk.elim) ?aF ?aO ?aB ?aS ?aL ?_;(case aP=>exact rfl);(case aB=>exact bl_);(case aF=>exact (fun _ _=>trivial));(case aO=>exact (xd_ HO_15.out));(case aS=>exact (acz bl_));(case aL=>have:=LMc35.out;omega);intro v610 w36 ho hb hg hat;rw [<-Ny609.out] at ho;have n_:=Zb (Za (Kd.cwz (ok:=(fun _=>True)) (sm_ HO_13) hg hat)) (Zb (Za (hb)) (Za (ho)));clear HO_13 HB HO_15;obtain ⟨HO_13,HB,HO611⟩:=n_;clear ho hb hg hat)))
    go_roundg k4
    case measure=>have:=HJ4.out;have:=HK2.out;have:=HK3.out;have:=HK4.out;omega
    case rel=>exact ⟨(y609),(wrap64 (x16_4+1)),sd_,H',⟨by have:=HJ4.out;have:=HK2.out;have:=HK3.out;have:=HK4.out;omega⟩,⟨sm_ HO_13⟩,⟨xd_ HO611.out⟩,⟨bl_⟩⟩
def aCz.l0:Nat->Int->Int->List Int->Int->Option (List Int)
 |0,_,_,_,_=>none
 |k+1,x0,x1,x5,x6=>if x6<x1 then (if x5.length<17592186044416 then (aCz.l0 k x0 x1 (x5++ [wrap64 (x0+x6)]) (wrap64 (x6+1))) else (none)) else (some x5)
def aCz.f (k:Nat) (a0:Int) (a1:Int):Option (List Int):=aCz.l0 k a0 a1 ([] :List Int) 0
theorem aCz.aWz: ∀k,(∀y0 y1 y2 y3,LeO (aCz.l0 k y0 y1 y2 y3) (aCz.l0 (k+1) y0 y1 y2 y3))
 |0=>fun _ _ _ _ r h=>by simp [aCz.l0] at h
 |k+1=>by
  have ih0:=aCz.aWz k
  ·intro y0 y1 y2 y3;unfold aCz.l0
   repeat' with_reducible first|apply ih0|apply LeO.refl|apply LeO.none|apply LeO.ite|refine LeO.bind ?_ fun _=>?_
theorem aCz.mono: ∀a0 a1 k,LeO (aCz.f k a0 a1) (aCz.f (k+1) a0 a1):=by
 intro a0 a1 k;have ih0:=aCz.aWz k;unfold aCz.f
 repeat' with_reducible first|apply ih0|apply LeO.refl|apply LeO.none|apply LeO.ite|refine LeO.bind ?_ fun _=>?_
theorem aCz.calls (k : Nat) (a0 : Int) (a1 : Int) (r : List Int) (w : World) (h : aCz.f k a0 a1 = some r) :
  Calls Tryz.prog 131 #[.int .i64 a0, .int .i64 a1] w fun e w'=> ∃v0_:Value,e= .returned (v0_)/\Kd.R (Kd.int .i64) 3 w' w.heap.size (fun _=>True) v0_ r/\Below w.heap.size w w':=by
 have HB:=Za (Zw w.heap.size w);have H:=h;clear h;unfold aCz.f at H;have H':=Za H;clear H;go_enter Tryz.func131,Tryz.ntmps131;go_wp2
 go_loopg [5,6] k (fun kq v5 v6 w'=> ∃(x5_1:List Int) (x6_1:Int),v6= .int .i64 x6_1/\Aside0 (aCz.l0 kq a0 a1 x5_1 x6_1=some r)/\Aside0 (kq<=k)/\Aside0 (Kd.R (Kd.int .i64) 3 w' w.heap.size (fun _=>True) v5 x5_1)/\Aside0 (Below w.heap.size w w'))
 case atStart=>exact ⟨(([] :List Int)),(0),sd_,H',⟨Zv _⟩,⟨nl_⟩,⟨bl_⟩⟩
 clear H'
 try clear c1
 try clear p2
 obtain ⟨x5_1,x6_1,rfl,HA,HK1,HO_5,HB⟩:=hrel;rcases gk with _|k1
 ·exact Yf HA.out (by simp [aCz.l0])
 have H:=HA.out;clear HA;simp only [aCz.l0] at H;by_cases c3:x6_1<a1
 rotate_left
 ·rw [Yb c3] at H;have c3b0:=Ze c3;clear c3;obtain rfl:=Zn H;go_wp2;go_ret;exact ⟨_,er_,xd_ HO_5.out,bl_⟩
 rw [Ya c3] at H;have c3b0:=Zd c3;clear c3;by_cases c4:x5_1.length<17592186044416
 rotate_left
 ·rw [Yb c4] at H;exact Yf H (by simp)
 rw [Ya c4] at H;have LMc4:=Za c4;clear c4;obtain ⟨y615,hy615⟩: ∃y_:List Int,y_=(x5_1++ [wrap64 (a0+x6_1)]):=⟨_,rfl⟩
 first|rw [Zl, <-hy615] at H|rw [<-hy615] at H
 (try dsimp only at H)
 have Ny615:=Za hy615;clear hy615;have H':=Za H;clear H
 go_wp2_with (first|((with_reducible refine anz (b:= .append) (xs:= #[.tmp 12, .tmp 16]) rfl ?_);at_builtin;refine Kd.bjz (Kd.int .i64) (w0:=w) w.heap.size rfl (.tmp 12) (.tmp 16) 57 3 (.int .i64 0) 8 rfl Tryz.underlying57 info3 rfl (by decide) (by omega) u5 x5_1 (wrap64 (a0+x6_1)) [.int .i64 (wrap64 (a0+x6_1))] (fun _=>True) (fun _=>False) rfl rfl ?aP (fun _ hk=>hk.elim) ?aF ?aO ?aB ?aS ?aL ?_;(case aP=>exact rfl);(case aB=>exact bl_);(case aF=>exact (fun _ _=>trivial));(case aO=>exact (xd_ HO_5.out));(case aS=>exact (acz bl_));(case aL=>have:=LMc4.out;omega);intro v616 w5 ho hb hg hat;rw [<-Ny615.out] at ho;have n_:=Zb (Za (hb)) (Za (ho));clear HB HO_5;obtain ⟨HB,HO617⟩:=n_;clear ho hb hg hat))
 go_roundg k1
 case measure=>have:=HK1.out;omega
 case rel=>exact ⟨(y615),(wrap64 (x6_1+1)),sd_,H',⟨by have:=HK1.out;omega⟩,⟨xd_ HO617.out⟩,⟨bl_⟩⟩
def asz.f (k:Nat) (a0:Int) (a1:Int) (a2:Int) (a3:Int):Option ((List (List Int))×Bool):=(bgz.f a2 a3).bind fun t618=>(if t618=true then ((aCz.f k 0 a3).bind fun t619=>((aCz.f k a3 a2).bind fun t622=>((ajz.f k a0 a1 t619 t622).bind fun bt625=>(some (bt625.1,bt625.2))))) else (some (([] :List (List Int)),false)))
theorem asz.mono: ∀a0 a1 a2 a3 k,LeO (asz.f k a0 a1 a2 a3) (asz.f (k+1) a0 a1 a2 a3):=by
 intro a0 a1 a2 a3 k;unfold asz.f
 repeat' with_reducible first|apply ajz.mono|apply aCz.mono|apply LeO.refl|apply LeO.none|apply LeO.ite|refine LeO.bind ?_ fun _=>?_
theorem asz.calls (k : Nat) (a0 : Int) (a1 : Int) (a2 : Int) (a3 : Int) (r1 : List (List Int)) (r2 : Bool) (w : World) (h : asz.f k a0 a1 a2 a3 = some (r1, r2)) :
  Calls Tryz.prog 84 #[.int .i64 a0, .int .u32 a1, .int .i64 a2, .int .i64 a3] w fun e w'=> ∃v0_:Value,e= .returned (.tuple #[v0_, .bool r2])/\Kd.S (Kd.slice 3 (Kd.int .i64)) 57 w' w.heap.size (fun _=>True) v0_ r1/\Below w.heap.size w w':=by
 have HB:=Za (Zw w.heap.size w);have H:=h;clear h;unfold asz.f at H;obtain ⟨t618,A5,H⟩:=ob_ H
 (try dsimp only at H)
 by_cases c6:t618=true
 rotate_left
 ·replace c6:=Zr c6;subst c6;rw [Yb (show¬(false=true) by decide)] at H;simp only [Zx,Zy] at H;obtain ⟨rfl,rfl⟩:=H;go_enter Tryz.func84,Tryz.ntmps84
  go_wp2_with (first|((with_reducible refine abz (f:=129) rfl ?_);refine gl_ (some 12) Tryz.func129 #[.int .i64 a2, .int .i64 a3] ?_;(with_reducible refine (bgz.calls a2 a3 false _ A5.out).mono ?_);rintro e w' ⟨rfl,⟨nd,rfl⟩⟩;refine ⟨_,rfl,?_⟩))
  go_ret2;exact ⟨_,er_,nl_,bl_⟩
 subst c6;rw [Ya rfl] at H;obtain ⟨t619,A7,H⟩:=ob_ H
 (try dsimp only at H)
 obtain ⟨t622,A8,H⟩:=ob_ H
 (try dsimp only at H)
 obtain ⟨⟨t625,t626⟩,A9,H⟩:=ob_ H
 (try dsimp only at H)
 simp only [Zx,Zy] at H;obtain ⟨rfl,rfl⟩:=H;go_enter Tryz.func84,Tryz.ntmps84
 go_wp2_with (first|((with_reducible refine abz (f:=129) rfl ?_);refine gl_ (some 12) Tryz.func129 #[.int .i64 a2, .int .i64 a3] ?_;(with_reducible refine (bgz.calls a2 a3 true _ A5.out).mono ?_);rintro e w' ⟨rfl,⟨nd,rfl⟩⟩;refine ⟨_,rfl,?_⟩)|((with_reducible refine abz (f:=131) rfl ?_);refine gl_ (some 17) Tryz.func131 #[.int .i64 0, .int .i64 a3] ?_;(with_reducible refine (aCz.calls k 0 a3 t619 _ A7.out).mono ?_);rintro e w10 ⟨v620,rfl,ho0,hb⟩;refine ⟨_,rfl,?_⟩;have n_:=Zb (Za (Kd.bGz ho0 (acz bl_))) (hs_ HB hb);clear HB;obtain ⟨HO621,HB⟩:=n_;clear hb ho0)|((with_reducible refine abz (f:=131) rfl ?_);refine gl_ (some 20) Tryz.func131 #[.int .i64 a3, .int .i64 a2] ?_;(with_reducible refine (aCz.calls k a3 a2 t622 _ A8.out).mono ?_);rintro e w11 ⟨v623,rfl,ho0,hb⟩;refine ⟨_,rfl,?_⟩;have n_:=Zb (Za (Kd.dMz (xd_ HO621.out) (Kd.chz ho0) hb)) (Zb (Za (Kd.bGz (Kd.R_new' ho0 (Kd.R_lt (xd_ HO621.out))) (acz bl_))) (hs_ HB hb));clear HO621 HB;obtain ⟨HO621,HO624,HB⟩:=n_;clear hb ho0;obtain ⟨Ao12,co12,eo12⟩:=Kd.a7z HO621.out;subst eo12;obtain ⟨Ao13,co13,eo13⟩:=Kd.a7z HO624.out;subst eo13)|((with_reducible refine abz (f:=130) rfl ?_);refine gl_ (some 21) Tryz.func130 #[.int .i64 a0, .int .u32 a1, .slice Ao12 t619.length co12, .slice Ao13 t622.length co13] ?_;(with_reducible refine (ajz.calls k a0 a1 _ _ t619 _ _ t622 t625 t626 _ (xd_ (Kd.aSz HO621.out).2.2) ((Kd.aSz HO621.out).2.1) (xd_ (Kd.aSz HO624.out).2.2) ((Kd.aSz HO624.out).2.1) A9.out).mono ?_);rintro e w14 ⟨v627,rfl,ho0,hb⟩;refine ⟨_,rfl,?_⟩;have n_:=Zb (Za (Kd.cRz (xd_ HO621.out) hb)) (Zb (Za (Kd.cRz (xd_ HO624.out) hb)) (Zb (Za (Kd.c1z (Kd.S_new' (Kd.S_new' ho0 (Kd.R_lt (xd_ HO621.out))) (Kd.R_lt (xd_ HO624.out))) (acz bl_))) (hs_ HB hb)));clear HO621 HO624 HB;obtain ⟨HO621,HO624,HO628,HB⟩:=n_;clear hb ho0))
 go_ret2;exact ⟨_,er_,sm_ HO628,bl_⟩
def bwz.f (k:Nat) (a0:Int) (a1:Int) (a2:Int):Option (Int):=(axz.f k a0).bind fun t629=>(if (wrap64 (t629 - 1))=0 then (none) else (if (Int.tmod a2 (wrap64 (t629 - 1)))<0 then ((aNz.f k a0 a1 2 (wrap64 ((Int.tmod a2 (wrap64 (t629 - 1)))+(wrap64 (t629 - 1))))).bind fun t630=>(some t630)) else ((aNz.f k a0 a1 2 (Int.tmod a2 (wrap64 (t629 - 1)))).bind fun t631=>(some t631))))
theorem bwz.mono: ∀a0 a1 a2 k,LeO (bwz.f k a0 a1 a2) (bwz.f (k+1) a0 a1 a2):=by
 intro a0 a1 a2 k;unfold bwz.f
 repeat' with_reducible first|apply aNz.mono|apply axz.mono|apply LeO.refl|apply LeO.none|apply LeO.ite|refine LeO.bind ?_ fun _=>?_
theorem bwz.calls (k : Nat) (a0 : Int) (a1 : Int) (a2 : Int) (r : Int) (w : World) (h : bwz.f k a0 a1 a2 = some r) :
  Calls Tryz.prog 132 #[.int .i64 a0, .int .u32 a1, .int .i64 a2] w fun e w'=>e= .returned (.int .i64 r)/\Drawn0 w w':=by
 have H:=h;clear h;unfold bwz.f at H;obtain ⟨t629,A4,H⟩:=ob_ H
 (try dsimp only at H)
 by_cases c5:(wrap64 (t629 - 1))=0
 ·rw [Ya c5] at H;exact Yf H (by simp)
 ·rw [Yb c5] at H;have c5b0:((wrap64 (t629 - 1))==0)=false:=Zq c5;have c5b1:((wrap64 (t629 - 1)) !=0)=true:=Yd c5;by_cases c6:(Int.tmod a2 (wrap64 (t629 - 1)))<0
  ·rw [Ya c6] at H;have c6b0:=Zd c6;clear c6;obtain ⟨t630,A7,H⟩:=ob_ H
   (try dsimp only at H)
   obtain rfl:=Zn H;go_enter Tryz.func132,Tryz.ntmps132
   go_wp2_with (first|((with_reducible refine abz (f:=156) rfl ?_);refine gl_ (some 9) Tryz.func156 #[.int .i64 a0] ?_;(with_reducible refine (axz.calls k a0 t629 _ A4.out).mono ?_);rintro e w' ⟨rfl,⟨nd,rfl⟩⟩;refine ⟨_,rfl,?_⟩)|((with_reducible refine abz (f:=168) rfl ?_);refine gl_ (some 22) Tryz.func168 #[.int .i64 a0, .int .u32 a1, .int .i64 2, .int .i64 (wrap64 ((Int.tmod a2 (wrap64 (t629 - 1)))+(wrap64 (t629 - 1))))] ?_;(with_reducible refine (aNz.calls k a0 a1 2 (wrap64 ((Int.tmod a2 (wrap64 (t629 - 1)))+(wrap64 (t629 - 1)))) t630 _ A7.out).mono ?_);rintro e w' ⟨rfl,⟨nd,rfl⟩⟩;refine ⟨_,rfl,?_⟩))
   go_ret;exact ⟨sd_,dn_⟩
  ·rw [Yb c6] at H;have c6b0:=Ze c6;clear c6;obtain ⟨t631,A8,H⟩:=ob_ H
   (try dsimp only at H)
   obtain rfl:=Zn H;go_enter Tryz.func132,Tryz.ntmps132
   go_wp2_with (first|((with_reducible refine abz (f:=156) rfl ?_);refine gl_ (some 9) Tryz.func156 #[.int .i64 a0] ?_;(with_reducible refine (axz.calls k a0 t629 _ A4.out).mono ?_);rintro e w' ⟨rfl,⟨nd,rfl⟩⟩;refine ⟨_,rfl,?_⟩)|((with_reducible refine abz (f:=168) rfl ?_);refine gl_ (some 22) Tryz.func168 #[.int .i64 a0, .int .u32 a1, .int .i64 2, .int .i64 (Int.tmod a2 (wrap64 (t629 - 1)))] ?_;(with_reducible refine (aNz.calls k a0 a1 2 (Int.tmod a2 (wrap64 (t629 - 1))) t631 _ A8.out).mono ?_);rintro e w' ⟨rfl,⟨nd,rfl⟩⟩;refine ⟨_,rfl,?_⟩))
   go_ret;exact ⟨sd_,dn_⟩
mutual
def alz.l0:Nat->Int->Int->Int->Int->List (List Int)->Int->Option ((List (List Int))×Bool)
 |0,_,_,_,_,_,_=>none
 |k+1,x0,x1,x2,x3,x10,x11=>if x11<x3 then (alz.l1 k x0 x1 x2 x3 x10 x11 ([] :List Int) 0) else (some (x10,true))
def alz.l1:Nat->Int->Int->Int->Int->List (List Int)->Int->List Int->Int->Option ((List (List Int))×Bool)
 |0,_,_,_,_,_,_,_,_=>none
 |k+1,x0,x1,x2,x3,x10,x11,x12,x13=>if x13<x2 then ((bwz.f k x0 x1 (wrap64 (x11*x13))).bind fun t633=>(if x12.length<17592186044416 then (alz.l1 k x0 x1 x2 x3 x10 x11 (x12++ [t633]) (wrap64 (x13+1))) else (none))) else (if x10.length<5864062014805 then (alz.l0 k x0 x1 x2 x3 (x10++ [x12]) (wrap64 (x11+1))) else (none))
end
def alz.f (k:Nat) (a0:Int) (a1:Int) (a2:Int) (a3:Int):Option ((List (List Int))×Bool):=(bgz.f a2 a3).bind fun t632=>(if t632=true then (alz.l0 k a0 a1 a2 a3 ([] :List (List Int)) 0) else (some (([] :List (List Int)),false)))
theorem alz.aWz: ∀k,(∀y0 y1 y2 y3 y4 y5,LeO (alz.l0 k y0 y1 y2 y3 y4 y5) (alz.l0 (k+1) y0 y1 y2 y3 y4 y5))/\(∀y0 y1 y2 y3 y4 y5 y6 y7,LeO (alz.l1 k y0 y1 y2 y3 y4 y5 y6 y7) (alz.l1 (k+1) y0 y1 y2 y3 y4 y5 y6 y7))
 |0=>⟨fun _ _ _ _ _ _ r h=>by simp [alz.l0] at h,fun _ _ _ _ _ _ _ _ r h=>by simp [alz.l1] at h⟩
 |k+1=>by
  obtain ⟨ih0,ih1⟩:=alz.aWz k;refine ⟨?_,?_⟩
  ·intro y0 y1 y2 y3 y4 y5;unfold alz.l0
   repeat' with_reducible first|apply ih0|apply ih1|apply bwz.mono|apply LeO.refl|apply LeO.none|apply LeO.ite|refine LeO.bind ?_ fun _=>?_
  ·intro y0 y1 y2 y3 y4 y5 y6 y7;unfold alz.l1
   repeat' with_reducible first|apply ih0|apply ih1|apply bwz.mono|apply LeO.refl|apply LeO.none|apply LeO.ite|refine LeO.bind ?_ fun _=>?_
theorem alz.mono: ∀a0 a1 a2 a3 k,LeO (alz.f k a0 a1 a2 a3) (alz.f (k+1) a0 a1 a2 a3):=by
 intro a0 a1 a2 a3 k;obtain ⟨ih0,ih1⟩:=alz.aWz k;unfold alz.f
 repeat' with_reducible first|apply ih0|apply ih1|apply bwz.mono|apply LeO.refl|apply LeO.none|apply LeO.ite|refine LeO.bind ?_ fun _=>?_
theorem alz.calls (k : Nat) (a0 : Int) (a1 : Int) (a2 : Int) (a3 : Int) (r1 : List (List Int)) (r2 : Bool) (w : World) (h : alz.f k a0 a1 a2 a3 = some (r1, r2)) :
  Calls Tryz.prog 85 #[.int .i64 a0, .int .u32 a1, .int .i64 a2, .int .i64 a3] w fun e w'=> ∃v0_:Value,e= .returned (.tuple #[v0_, .bool r2])/\Kd.S (Kd.slice 3 (Kd.int .i64)) 57 w' w.heap.size (fun _=>True) v0_ r1/\Below w.heap.size w w':=by
 have HB:=Za (Zw w.heap.size w);have H:=h;clear h;unfold alz.f at H;obtain ⟨t632,A5,H⟩:=ob_ H
 (try dsimp only at H)
 by_cases c6:t632=true
 rotate_left
 ·replace c6:=Zr c6;subst c6;rw [Yb (show¬(false=true) by decide)] at H;simp only [Zx,Zy] at H;obtain ⟨rfl,rfl⟩:=H;go_enter Tryz.func85,Tryz.ntmps85
  go_wp2_with (first|((with_reducible refine abz (f:=129) rfl ?_);refine gl_ (some 16) Tryz.func129 #[.int .i64 a2, .int .i64 a3] ?_;(with_reducible refine (bgz.calls a2 a3 false _ A5.out).mono ?_);rintro e w' ⟨rfl,⟨nd,rfl⟩⟩;refine ⟨_,rfl,?_⟩))
  go_ret2;exact ⟨_,er_,nl_,bl_⟩
 subst c6;rw [Ya rfl] at H;have H':=Za H;clear H;go_enter Tryz.func85,Tryz.ntmps85
 go_wp2_with (first|((with_reducible refine abz (f:=129) rfl ?_);refine gl_ (some 16) Tryz.func129 #[.int .i64 a2, .int .i64 a3] ?_;(with_reducible refine (bgz.calls a2 a3 true _ A5.out).mono ?_);rintro e w' ⟨rfl,⟨nd,rfl⟩⟩;refine ⟨_,rfl,?_⟩))
 go_loopg [10,11] k (fun kq v10 v11 w'=> ∃(x10_1:List (List Int)) (x11_1:Int),v11= .int .i64 x11_1/\Aside0 (alz.l0 kq a0 a1 a2 a3 x10_1 x11_1=some (r1,r2))/\Aside0 (kq<=k)/\Aside0 (Kd.S (Kd.slice 3 (Kd.int .i64)) 57 w' w.heap.size (fun _=>True) v10 x10_1)/\Aside0 (Below w.heap.size w w'))
 case atStart=>exact ⟨(([] :List (List Int))),(0),sd_,H',⟨Zv _⟩,⟨nl_⟩,⟨bl_⟩⟩
 clear H'
 try clear c1
 try clear p2
 try clear c6
 obtain ⟨x10_1,x11_1,rfl,HA,HK1,HO_10,HB⟩:=hrel;rcases gk with _|k1
 ·exact Yf HA.out (by simp [alz.l0])
 have H:=HA.out;clear HA;simp only [alz.l0] at H;by_cases c7:x11_1<a3
 rotate_left
 ·rw [Yb c7] at H;have c7b0:=Ze c7;clear c7;simp only [Zx,Zy] at H;obtain ⟨rfl,rfl⟩:=H;go_wp2;go_ret2;exact ⟨_,er_,xd_ HO_10.out,bl_⟩
 rw [Ya c7] at H;have c7b0:=Zd c7;clear c7;have H':=Za H;clear H;go_wp2
 go_loopg [12,13] k1 (fun kq v12 v13 w'=> ∃(x12_2:List Int) (x13_2:Int),v13= .int .i64 x13_2/\Aside0 (alz.l1 kq a0 a1 a2 a3 x10_1 x11_1 x12_2 x13_2=some (r1,r2))/\Aside0 (kq<=k1)/\Aside0 (Kd.S (Kd.slice 3 (Kd.int .i64)) 57 w' w.heap.size (fun k_=>some k_≠(v12:Value).ownBlock) u10 x10_1)/\Aside0 (Kd.R (Kd.int .i64) 3 w' w.heap.size (fun _=>True) v12 x12_2)/\Aside0 (Below w.heap.size w w'))
 case atStart=>exact ⟨(([] :List Int)),(0),sd_,H',⟨Zv _⟩,⟨sm_ HO_10⟩,⟨nl_⟩,⟨bl_⟩⟩
 clear H'
 try clear c1
 try clear p2
 try clear c6
 try clear c7
 try clear c7b0
 try clear p2
 obtain ⟨x12_2,x13_2,rfl,HA,HK2,HO_10,HO_12,HB⟩:=hrel;rcases gk with _|k2
 ·exact Yf HA.out (by simp [alz.l1])
 have H:=HA.out;clear HA;simp only [alz.l1] at H;by_cases c8:x13_2<a2
 ·rw [Ya c8] at H;have c8b0:=Zd c8;clear c8;obtain ⟨t633,A9,H⟩:=ob_ H
  (try dsimp only at H)
  by_cases c10:x12_2.length<17592186044416
  rotate_left
  ·rw [Yb c10] at H;exact Yf H (by simp)
  rw [Ya c10] at H;have LMc10:=Za c10;clear c10;obtain ⟨y634,hy634⟩: ∃y_:List Int,y_=(x12_2++ [t633]):=⟨_,rfl⟩
  first|rw [Zl, <-hy634] at H|rw [<-hy634] at H
  (try dsimp only at H)
  have Ny634:=Za hy634;clear hy634;have H':=Za H;clear H
  go_wp2_with (first|((with_reducible refine abz (f:=132) rfl ?_);refine gl_ (some 34) Tryz.func132 #[.int .i64 a0, .int .u32 a1, .int .i64 (wrap64 (x11_1*x13_2))] ?_;(with_reducible refine (bwz.calls k2 a0 a1 (wrap64 (x11_1*x13_2)) t633 _ A9.out).mono ?_);rintro e w' ⟨rfl,⟨nd,rfl⟩⟩;refine ⟨_,rfl,?_⟩)|((with_reducible refine anz (b:= .append) (xs:= #[.tmp 28, .tmp 35]) rfl ?_);at_builtin;refine Kd.bjz (Kd.int .i64) (w0:=w) w.heap.size rfl (.tmp 28) (.tmp 35) 57 3 (.int .i64 0) 8 rfl Tryz.underlying57 info3 rfl (by decide) (by omega) u12 x12_2 t633 [.int .i64 t633] (fun _=>True) (fun _=>False) rfl rfl ?aP (fun _ hk=>hk.elim) ?aF ?aO ?aB ?aS ?aL ?_;(case aP=>exact rfl);(case aB=>exact bl_);(case aF=>exact (fun _ _=>trivial));(case aO=>exact (xd_ HO_12.out));(case aS=>exact (acz bl_));(case aL=>have:=LMc10.out;omega);intro v635 w11 ho hb hg hat;rw [<-Ny634.out] at ho;have n_:=Zb (Za (Kd.cwz (ok:=(fun _=>True)) (sm_ HO_10) hg hat)) (Zb (Za (hb)) (Za (ho)));clear HO_10 HB HO_12;obtain ⟨HO_10,HB,HO636⟩:=n_;clear ho hb hg hat))
  go_roundg k2
  case measure=>have:=HK1.out;have:=HK2.out;omega
  case rel=>exact ⟨(y634),(wrap64 (x13_2+1)),sd_,H',⟨by have:=HK1.out;have:=HK2.out;omega⟩,⟨sm_ HO_10⟩,⟨xd_ HO636.out⟩,⟨bl_⟩⟩
 ·rw [Yb c8] at H;have c8b0:=Ze c8;clear c8;by_cases c12:x10_1.length<5864062014805
  rotate_left
  ·rw [Yb c12] at H;exact Yf H (by simp)
  rw [Ya c12] at H;have LMc12:=Za c12;clear c12;obtain ⟨y637,hy637⟩: ∃y_:List (List Int),y_=(x10_1++ [x12_2]):=⟨_,rfl⟩
  first|rw [Zl, <-hy637] at H|rw [<-hy637] at H
  (try dsimp only at H)
  have Ny637:=Za hy637;clear hy637;have H':=Za H;clear H;obtain ⟨Ao14,co14,eo14⟩:=Kd.a7z HO_12.out;subst eo14
  go_wp2_with (first|((with_reducible refine anz (b:= .append) (xs:= #[.tmp 37, .tmp 39]) rfl ?_);at_builtin;refine Kd.bPz (Kd.slice 3 (Kd.int .i64)) (w0:=w) w.heap.size rfl (.tmp 37) (.tmp 39) 68 57 (.slice none 0 0) 24 rfl Tryz.underlying68 info57 rfl (by decide) (by omega) u10 x10_1 x12_2 [.slice Ao14 x12_2.length co14] (fun _=>True) (fun k_=>some k_=(.slice Ao14 x12_2.length co14:Value).ownBlock) rfl rfl ?aP (fun k_ hk_=>((Kd.aQz (ok':=fun k_=>((fun _=>True)) k_/\some k_≠(u10:Value).ownBlock) (Kd.bpz (HO_12.out) (Kd.bBz HO_10.out) (by decide)) (fun k_ hk=>⟨trivial,hk.2⟩))).1 k_ hk_.symm) ?aF ?aO ?aB ?aS ?aL ?_;(case aP=>exact Kd.M_row (Kd.aQz (Kd.b3z rfl (Kd.aQz (ok':=fun k_=>((fun _=>True)) k_/\some k_≠(u10:Value).ownBlock) (Kd.bpz (HO_12.out) (Kd.bBz HO_10.out) (by decide)) (fun k_ hk=>⟨trivial,hk.2⟩))) (fun _ h_=>h_)));(case aB=>exact bl_);(case aF=>exact (fun _ _=>trivial));(case aO=>exact (sm_ HO_10));(case aS=>exact (acz bl_));(case aL=>have:=LMc12.out;omega);intro v638 w13 ho hb hg hat;rw [<-Ny637.out] at ho;have n_:=Zb (Za (hb)) (Za (ho));clear HB HO_10 HO_12;obtain ⟨HB,HO639⟩:=n_;clear ho hb hg hat))
  go_roundg k2
  case measure=>have:=HK1.out;have:=HK2.out;omega
  case rel=>exact ⟨(y637),(wrap64 (x11_1+1)),sd_,H',⟨by have:=HK1.out;have:=HK2.out;omega⟩,⟨xd_ HO639.out⟩,⟨bl_⟩⟩
def biz.f (a0_0:Int) (a0_1:Int) (a0_2:Int):Option (Bool):=(aRz.f a0_0).bind fun bt443=>(if bt443.2.2.2.2.2=true then (if a0_1>=1 then (if a0_1<=8 then (if a0_2>=1 then (some (decide (a0_2<=bt443.2.2.2.2.1))) else (some false)) else (some false)) else (some false)) else (some false))
theorem biz.calls (a0_0:Int) (a0_1:Int) (a0_2:Int) (r:Bool) (w:World) (h:biz.f a0_0 a0_1 a0_2=some r):
 Calls Tryz.prog 48 #[.agg #[.int .i64 a0_0, .int .i64 a0_1, .int .i64 a0_2]] w fun e w'=>e= .returned (.bool r)/\Below w.heap.size w w':=by
 have hu23:=Tryz.underlying23;have hu79:=Tryz.underlying79;have HB:=Za (Zw w.heap.size w);have H:=h;clear h;unfold biz.f at H;obtain ⟨⟨t443,t444,t445,t446,t447,t448⟩,A2,H⟩:=ob_ H
 (try dsimp only at H)
 have HH:=Za H;clear H;go_enter Tryz.func48,Tryz.ntmps48
 go_wp2_with (first|((with_reducible refine aUz (N:=1) rfl ?_);refine bx_ 1 #[.int .i64 a0_0, .int .i64 a0_1, .int .i64 a0_2] 23 ?_;intro gb442 hg w7 hbox hb;have n_:=Zb (hs_ HB hb) (Zb (Za (hbox)) (Zb (ag_ HB gb442) (ag_ HB gb442)));clear HB;obtain ⟨HB,BK442,GW442,GE442⟩:=n_;clear hb hbox hg;obtain ⟨hcz8_0,hfz8_0,hcz8_1,hfz8_1,hcz8_2,hfz8_2⟩:=bc3_ BK442.out)|((with_reducible refine abz (f:=50) rfl ?_);refine gl_ (some 8) Tryz.func50 #[.int .i64 a0_0] ?_;(with_reducible refine (aRz.calls a0_0 t443 t444 t445 t446 t447 t448 _ A2.out).mono ?_);rintro e w9 ⟨rfl,hb⟩;refine ⟨_,rfl,?_⟩;have n_:=Zb (bb_ BK442 hb) (hs_ HB hb);clear BK442 HB;obtain ⟨BK442,HB⟩:=n_;(try clear hb))|((with_reducible refine aUz (N:=3) rfl ?_);refine b4z ?hg (N:=3) ?hd (cs:= #[.string (⟨#[]⟩:ByteArray), .int .i64 0, .int .u32 0, .int .u8 0, .int .i64 0]) (t:=79) ?hr ?_;(case hd=>rfl);(case hg=>rfl);(case hr=>first|(go_simp;done)|(go_simp;rfl));intro gb449 hg w10 hbox hb;have n_:=Zb (bb_ BK442 hb) (Zb (hs_ HB hb) (Zb (Za (hbox)) (Zb (ag_ HB gb449) (Zb (ag_ HB gb449) (Zb (n1_ BK442 gb449) (n2_ BK442 gb449))))));clear BK442 HB;obtain ⟨BK442,HB,BK449,GW449,GE449,NB442_449,NB449_442⟩:=n_;clear hb hbox hg;have hnb11:=NB449_442.out;have hnc11:=NB442_449.out;obtain ⟨hcz12_0,hfz12_0,hcz12_1,hfz12_1,hcz12_2,hfz12_2,hcz12_3,hfz12_3,hcz12_4,hfz12_4⟩:=bc5_ BK449.out;obtain ⟨hcz13_0,hfz13_0,hcz13_1,hfz13_1,hcz13_2,hfz13_2⟩:=bc3_ BK442.out))
 all_goals
  go_ret;refine ⟨congrArg (fun b=>Ending.returned (.bool b)) ?_,bl_⟩;have H:=HH.out
  simp_all
 all_goals (rw [Yb (by omega)] at H;simp_all)
end Go.Proofs.Xc
end
