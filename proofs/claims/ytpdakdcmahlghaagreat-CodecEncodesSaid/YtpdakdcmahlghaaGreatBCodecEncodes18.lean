-- Joined texts of this work (wip/tools/bundle.py).
import Derived.Test.YtpdakdcmahlghaaGreatBCodecEncodes17
set_option maxHeartbeats 8000000
set_option maxRecDepth 100000
set_option linter.unusedVariables false
set_option linter.unusedSimpArgs false
section
namespace Go.Proofs.Xc
open Go.RowKit Go.Proofs.Pw Go.Proofs.Pl Go.Proofs.Pm
attribute [local go_sem] baz bbz bmz bnz a2z a3z bcz bdz
def atz.f (k:Nat) (a0:Int) (a1:Int) (a2:Int) (a3:Int):Option ((List (List Int))×Bool):=(bgz.f a2 a3).bind fun t640=>(if t640=true then ((aCz.f k a2 a3).bind fun t641=>((aCz.f k 0 a2).bind fun t644=>((ajz.f k a0 a1 t641 t644).bind fun bt647=>(some (bt647.1,bt647.2))))) else (some (([] :List (List Int)),false)))
theorem atz.mono: ∀a0 a1 a2 a3 k,LeO (atz.f k a0 a1 a2 a3) (atz.f (k+1) a0 a1 a2 a3):=by
 intro a0 a1 a2 a3 k;unfold atz.f
 repeat' with_reducible first|apply ajz.mono|apply aCz.mono|apply LeO.refl|apply LeO.none|apply LeO.ite|refine LeO.bind ?_ fun _=>?_
theorem atz.calls (k : Nat) (a0 : Int) (a1 : Int) (a2 : Int) (a3 : Int) (r1 : List (List Int)) (r2 : Bool) (w : World) (h : atz.f k a0 a1 a2 a3 = some (r1, r2)) :
  Calls Tryz.prog 86 #[.int .i64 a0, .int .u32 a1, .int .i64 a2, .int .i64 a3] w fun e w'=> ∃v0_:Value,e= .returned (.tuple #[v0_, .bool r2])/\Kd.S (Kd.slice 3 (Kd.int .i64)) 57 w' w.heap.size (fun _=>True) v0_ r1/\Below w.heap.size w w':=by
 have HB:=Za (Zw w.heap.size w);have H:=h;clear h;unfold atz.f at H;obtain ⟨t640,A5,H⟩:=ob_ H
 (try dsimp only at H)
 by_cases c6:t640=true
 rotate_left
 ·replace c6:=Zr c6;subst c6;rw [Yb (show¬(false=true) by decide)] at H;simp only [Zx,Zy] at H;obtain ⟨rfl,rfl⟩:=H;go_enter Tryz.func86,Tryz.ntmps86
  go_wp2_with (first|((with_reducible refine abz (f:=129) rfl ?_);refine gl_ (some 12) Tryz.func129 #[.int .i64 a2, .int .i64 a3] ?_;(with_reducible refine (bgz.calls a2 a3 false _ A5.out).mono ?_);rintro e w' ⟨rfl,⟨nd,rfl⟩⟩;refine ⟨_,rfl,?_⟩))
  go_ret2;exact ⟨_,er_,nl_,bl_⟩
 subst c6;rw [Ya rfl] at H;obtain ⟨t641,A7,H⟩:=ob_ H
 (try dsimp only at H)
 obtain ⟨t644,A8,H⟩:=ob_ H
 (try dsimp only at H)
 obtain ⟨⟨t647,t648⟩,A9,H⟩:=ob_ H
 (try dsimp only at H)
 simp only [Zx,Zy] at H;obtain ⟨rfl,rfl⟩:=H;go_enter Tryz.func86,Tryz.ntmps86
 go_wp2_with (first|((with_reducible refine abz (f:=129) rfl ?_);refine gl_ (some 12) Tryz.func129 #[.int .i64 a2, .int .i64 a3] ?_;(with_reducible refine (bgz.calls a2 a3 true _ A5.out).mono ?_);rintro e w' ⟨rfl,⟨nd,rfl⟩⟩;refine ⟨_,rfl,?_⟩)|((with_reducible refine abz (f:=131) rfl ?_);refine gl_ (some 18) Tryz.func131 #[.int .i64 a2, .int .i64 a3] ?_;(with_reducible refine (aCz.calls k a2 a3 t641 _ A7.out).mono ?_);rintro e w10 ⟨v642,rfl,ho0,hb⟩;refine ⟨_,rfl,?_⟩;have n_:=Zb (Za (Kd.bGz ho0 (acz bl_))) (hs_ HB hb);clear HB;obtain ⟨HO643,HB⟩:=n_;clear hb ho0)|((with_reducible refine abz (f:=131) rfl ?_);refine gl_ (some 20) Tryz.func131 #[.int .i64 0, .int .i64 a2] ?_;(with_reducible refine (aCz.calls k 0 a2 t644 _ A8.out).mono ?_);rintro e w11 ⟨v645,rfl,ho0,hb⟩;refine ⟨_,rfl,?_⟩;have n_:=Zb (Za (Kd.dMz (xd_ HO643.out) (Kd.chz ho0) hb)) (Zb (Za (Kd.bGz (Kd.R_new' ho0 (Kd.R_lt (xd_ HO643.out))) (acz bl_))) (hs_ HB hb));clear HO643 HB;obtain ⟨HO643,HO646,HB⟩:=n_;clear hb ho0;obtain ⟨Ao12,co12,eo12⟩:=Kd.a7z HO643.out;subst eo12;obtain ⟨Ao13,co13,eo13⟩:=Kd.a7z HO646.out;subst eo13)|((with_reducible refine abz (f:=130) rfl ?_);refine gl_ (some 21) Tryz.func130 #[.int .i64 a0, .int .u32 a1, .slice Ao12 t641.length co12, .slice Ao13 t644.length co13] ?_;(with_reducible refine (ajz.calls k a0 a1 _ _ t641 _ _ t644 t647 t648 _ (xd_ (Kd.aSz HO643.out).2.2) ((Kd.aSz HO643.out).2.1) (xd_ (Kd.aSz HO646.out).2.2) ((Kd.aSz HO646.out).2.1) A9.out).mono ?_);rintro e w14 ⟨v649,rfl,ho0,hb⟩;refine ⟨_,rfl,?_⟩;have n_:=Zb (Za (Kd.cRz (xd_ HO643.out) hb)) (Zb (Za (Kd.cRz (xd_ HO646.out) hb)) (Zb (Za (Kd.c1z (Kd.S_new' (Kd.S_new' ho0 (Kd.R_lt (xd_ HO643.out))) (Kd.R_lt (xd_ HO646.out))) (acz bl_))) (hs_ HB hb)));clear HO643 HO646 HB;obtain ⟨HO643,HO646,HO650,HB⟩:=n_;clear hb ho0))
 go_ret2;exact ⟨_,er_,sm_ HO650,bl_⟩
def apz.f (k:Nat) (a0:Int) (a1:Int) (a2:Int) (a3:Int):Option ((List (List Int))×Bool):=(bgz.f a2 a3).bind fun t651=>(if t651=true then ((aqz.f k a0 a1 (wrap64 (a2+a3)) a2).bind fun bt652=>(if 0<=a2 then (if a2<=(bt652.1.length:Int) then ((ahz.f k a0 a1 (bt652.1.take (a2:Int).toNat)).bind fun bt661=>((akz.f k a0 a1 bt652.1 bt661.1).bind fun bt665=>(some (bt665.1,bt665.2)))) else (none)) else (none))) else (some (([] :List (List Int)),false)))
theorem apz.mono: ∀a0 a1 a2 a3 k,LeO (apz.f k a0 a1 a2 a3) (apz.f (k+1) a0 a1 a2 a3):=by
 intro a0 a1 a2 a3 k;unfold apz.f
 repeat' with_reducible first|apply akz.mono|apply ahz.mono|apply aqz.mono|apply LeO.refl|apply LeO.none|apply LeO.ite|refine LeO.bind ?_ fun _=>?_
theorem apz.calls (k : Nat) (a0 : Int) (a1 : Int) (a2 : Int) (a3 : Int) (r1 : List (List Int)) (r2 : Bool) (w : World) (h : apz.f k a0 a1 a2 a3 = some (r1, r2)) :
  Calls Tryz.prog 87 #[.int .i64 a0, .int .u32 a1, .int .i64 a2, .int .i64 a3] w fun e w'=> ∃v0_:Value,e= .returned (.tuple #[v0_, .bool r2])/\Kd.N (Kd.slice 3 (Kd.int .i64)) 57 w' w.heap.size (fun k_=>(w.heap.size<=k_)) v0_ r1/\Below w.heap.size w w':=by
 have HB:=Za (Zw w.heap.size w);have H:=h;clear h;unfold apz.f at H;obtain ⟨t651,A5,H⟩:=ob_ H
 (try dsimp only at H)
 by_cases c6:t651=true
 rotate_left
 ·replace c6:=Zr c6;subst c6;rw [Yb (show¬(false=true) by decide)] at H;simp only [Zx,Zy] at H;obtain ⟨rfl,rfl⟩:=H;go_enter Tryz.func87,Tryz.ntmps87
  go_wp2_with (first|((with_reducible refine abz (f:=129) rfl ?_);refine gl_ (some 16) Tryz.func129 #[.int .i64 a2, .int .i64 a3] ?_;(with_reducible refine (bgz.calls a2 a3 false _ A5.out).mono ?_);rintro e w' ⟨rfl,⟨nd,rfl⟩⟩;refine ⟨_,rfl,?_⟩))
  go_ret2;exact ⟨_,er_,nl_,bl_⟩
 subst c6;rw [Ya rfl] at H;obtain ⟨⟨t652,t653⟩,A7,H⟩:=ob_ H
 (try dsimp only at H)
 by_cases c8:0<=a2
 rotate_left
 ·rw [Yb c8] at H;exact Yf H (by simp)
 rw [Ya c8] at H;have c8b0:=Zz c8;have c8b1:=Zd c8;clear c8;by_cases c9:a2<=(t652.length:Int)
 rotate_left
 ·rw [Yb c9] at H;exact Yf H (by simp)
 rw [Ya c9] at H;have c9b0:=Zz c9;have c9b1:=Zd c9;clear c9;obtain ⟨y656,hy656⟩: ∃y_:List (List Int),y_=(t652.take (a2:Int).toNat):=⟨_,rfl⟩
 first|rw [Zl, <-hy656] at H|rw [<-hy656] at H
 (try dsimp only at H)
 have Ny656:=Za hy656;clear hy656;obtain ⟨⟨t661,t664⟩,A10,H⟩:=ob_ H
 (try dsimp only at H)
 obtain ⟨⟨t665,t666⟩,A11,H⟩:=ob_ H
 (try dsimp only at H)
 simp only [Zx,Zy] at H;obtain ⟨rfl,rfl⟩:=H;go_enter Tryz.func87,Tryz.ntmps87
 go_wp2_with (first|((with_reducible refine abz (f:=129) rfl ?_);refine gl_ (some 16) Tryz.func129 #[.int .i64 a2, .int .i64 a3] ?_;(with_reducible refine (bgz.calls a2 a3 true _ A5.out).mono ?_);rintro e w' ⟨rfl,⟨nd,rfl⟩⟩;refine ⟨_,rfl,?_⟩)|((with_reducible refine abz (f:=133) rfl ?_);refine gl_ (some 25) Tryz.func133 #[.int .i64 a0, .int .u32 a1, .int .i64 (wrap64 (a2+a3)), .int .i64 a2] ?_;(with_reducible refine (aqz.calls k a0 a1 (wrap64 (a2+a3)) a2 t652 t653 _ A7.out).mono ?_);rintro e w12 ⟨v654,rfl,ho0,hb⟩;refine ⟨_,rfl,?_⟩;have n_:=Zb (Za (Kd.bUz (Kd.bRz (ok':=fun k_=>(w.heap.size<=k_)) (Kd.S_N (Kd.bEz ho0)) (fun k_ hk_=>(Zt (acz bl_) hk_.2.1))) (acz bl_))) (hs_ HB hb);clear HB;obtain ⟨HO655,HB⟩:=n_;clear hb ho0;obtain ⟨Ao14,co14,eo14⟩:=Kd.clz HO655.out;subst eo14;have q13:(a2:Int)<=((t652.length:Int):Int):=Zc as_;obtain ⟨i013,hi013,_,hsz13,_⟩:=info_parts info57;have hroom13:t652.length<=co14:=(Kd.btz HO655.out).2.1;have hC13:Kd.F (Kd.slice 3 (Kd.int .i64)) _ _ Ao14 t652.length t652:=(Kd.V_at (base:=w.heap.size) (Kd.N_V HO655.out)).2.2;have hcut13:=cut_to (P:=Tryz.prog) 68 57 .i64 Tryz.underlying68 hi013 Ao14 t652.length co14 a2 (Zc as_) q13 hroom13;have hr13:=Kd.F_take (m:=(a2:Int).toNat) hC13 (by omega);have hy13:y656.length=(a2:Int).toNat:=(by rw [Ny656.out,List.length_take];omega);rw [<-Ny656.out] at hr13;rw [<-hy13] at hcut13;have HO660:=Za (show Kd.V (Kd.slice 3 (Kd.int .i64)) 57 _ w.heap.size _ (.slice Ao14 y656.length co14) y656 from Kd.V_mk (by omega) hr13);have HC660:=Za (show y656.length<=co14 from by omega);clear hr13 hC13 hroom13 hi013 hsz13;have KY13:=Za hy13;clear hy13;replace q13:=Zz q13)|((with_reducible refine abz (f:=64) rfl ?_);refine gl_ (some 34) Tryz.func64 #[.int .i64 a0, .int .u32 a1, .slice Ao14 y656.length co14] ?_;(with_reducible refine (ahz.calls k a0 a1 _ _ y656 t661 t664 _ (xd_ (Kd.cWz HO660.out).2.2) ((Kd.cWz HO660.out).2.1) A10.out).mono ?_);rintro e w15 ⟨v662,rfl,ho0,hb⟩;refine ⟨_,rfl,?_⟩;have n_:=Zb (Za (Kd.b5z (xd_ HO655.out) (Kd.cTz ho0) hb)) (Zb (Za (Kd.dqz (xd_ HO660.out) (Kd.cTz ho0) hb)) (Zb (Za (Kd.bUz (Kd.bRz (ok':=fun k_=>(w.heap.size<=k_)/\some k_≠(.slice Ao14 t652.length co14:Value).ownBlock) ho0 (fun k_ hk_=>⟨(Zt (acz bl_) hk_),(Kd.fresh' (Kd.N_lt (xd_ HO655.out)) k_ hk_)⟩)) (acz bl_))) (hs_ HB hb)));clear HO655 HO660 HB;obtain ⟨HO655,HO660,HO663,HB⟩:=n_;clear hb ho0;obtain ⟨Ao16,co16,eo16⟩:=Kd.clz HO663.out;subst eo16)|((with_reducible refine abz (f:=127) rfl ?_);refine gl_ (some 41) Tryz.func127 #[.int .i64 a0, .int .u32 a1, .slice Ao14 t652.length co14, .slice Ao16 t661.length co16] ?_;(with_reducible refine (akz.calls k a0 a1 _ _ t652 _ _ t661 t665 t666 _ (xd_ (Kd.btz HO655.out).2.2) ((Kd.btz HO655.out).2.1) (xd_ (Kd.btz HO663.out).2.2) ((Kd.btz HO663.out).2.1) A11.out).mono ?_);rintro e w17 ⟨v667,rfl,ho0,hb⟩;refine ⟨_,rfl,?_⟩;have n_:=Zb (Za (Kd.b5z (xd_ HO655.out) (Kd.dhz ho0) hb)) (Zb (Za (Kd.dqz (xd_ HO660.out) (Kd.dhz ho0) hb)) (Zb (Za (Kd.b5z (xd_ HO663.out) (Kd.dhz ho0) hb)) (Zb (Za (Kd.bUz (Kd.bRz (ok':=fun k_=>(w.heap.size<=k_)/\some k_≠(.slice Ao14 t652.length co14:Value).ownBlock/\some k_≠(.slice Ao16 t661.length co16:Value).ownBlock) (Kd.S_N (Kd.bEz ho0)) (fun k_ hk_=>⟨(Zt (acz bl_) hk_.2.1),(Kd.fresh' (Kd.N_lt (xd_ HO655.out)) k_ hk_.2.1),(Kd.fresh' (Kd.N_lt (xd_ HO663.out)) k_ hk_.2.1)⟩)) (acz bl_))) (hs_ HB hb))));clear HO655 HO660 HO663 HB;obtain ⟨HO655,HO660,HO663,HO668,HB⟩:=n_;clear hb ho0))
 go_ret2;exact ⟨_,er_,nm_ HO668,bl_⟩
def brz.f (k:Nat) (a0_0:Int) (a0_1:Int) (a0_2:Int):Option ((List (List Int))×Bool):=(biz.f a0_0 a0_1 a0_2).bind fun t670=>(if t670=true then ((aRz.f a0_0).bind fun bt671=>(if a0_0=1 then ((aaz.f k bt671.2.1 bt671.2.2.1 a0_1 a0_2).bind fun bt678=>(some (bt678.1,bt678.2))) else (if a0_0=2 then ((asz.f k bt671.2.1 bt671.2.2.1 a0_1 a0_2).bind fun bt682=>(some (bt682.1,bt682.2))) else (if a0_0=3 then ((alz.f k bt671.2.1 bt671.2.2.1 a0_1 a0_2).bind fun bt686=>(some (bt686.1,bt686.2))) else (if a0_0=4 then ((atz.f k bt671.2.1 bt671.2.2.1 a0_1 a0_2).bind fun bt690=>(some (bt690.1,bt690.2))) else ((apz.f k bt671.2.1 bt671.2.2.1 a0_1 a0_2).bind fun bt694=>(if 0<=a0_1 then (if a0_1<=(bt694.1.length:Int) then (some ((bt694.1.drop (a0_1:Int).toNat),bt694.2)) else (none)) else (none)))))))) else (some (([] :List (List Int)),false)))
theorem brz.mono: ∀a0 a1 a2 k,LeO (brz.f k a0 a1 a2) (brz.f (k+1) a0 a1 a2):=by
 intro a0 a1 a2 k;unfold brz.f
 repeat' with_reducible first|apply alz.mono|apply apz.mono|apply aaz.mono|apply atz.mono|apply asz.mono|apply LeO.refl|apply LeO.none|apply LeO.ite|refine LeO.bind ?_ fun _=>?_
theorem brz.calls (k : Nat) (a0_0 : Int) (a0_1 : Int) (a0_2 : Int) (r1 : List (List Int)) (r2 : Bool) (w : World) (h : brz.f k a0_0 a0_1 a0_2 = some (r1, r2)) :
  Calls Tryz.prog 51 #[.agg #[.int .i64 a0_0, .int .i64 a0_1, .int .i64 a0_2]] w fun e w'=> ∃v0_:Value,e= .returned (.tuple #[v0_, .bool r2])/\Kd.V (Kd.slice 3 (Kd.int .i64)) 57 w' w.heap.size (fun k_=>(w.heap.size<=k_)) v0_ r1/\Below w.heap.size w w':=by
 have hu23:=Tryz.underlying23;have hu79:=Tryz.underlying79;have HB:=Za (Zw w.heap.size w);have H:=h;clear h;unfold brz.f at H;obtain ⟨t670,A2,H⟩:=ob_ H
 (try dsimp only at H)
 by_cases c3:t670=true
 rotate_left
 ·replace c3:=Zr c3;subst c3;rw [Yb (show¬(false=true) by decide)] at H;simp only [Zx,Zy] at H;obtain ⟨rfl,rfl⟩:=H;go_enter Tryz.func51,Tryz.ntmps51
  go_wp2_with (first|((with_reducible refine aUz (N:=1) rfl ?_);refine bx_ 1 #[.int .i64 a0_0, .int .i64 a0_1, .int .i64 a0_2] 23 ?_;intro gb669 hg w69 hbox hb;have n_:=Zb (hs_ HB hb) (Zb (Za (hbox)) (Zb (ag_ HB gb669) (ag_ HB gb669)));clear HB;obtain ⟨HB,BK669,GW669,GE669⟩:=n_;clear hb hbox hg;obtain ⟨hcz70_0,hfz70_0,hcz70_1,hfz70_1,hcz70_2,hfz70_2⟩:=bc3_ BK669.out)|((with_reducible refine abz (f:=48) rfl ?_);refine gl_ (some 9) Tryz.func48 #[.agg #[.int .i64 a0_0, .int .i64 a0_1, .int .i64 a0_2]] ?_;(with_reducible refine (biz.calls a0_0 a0_1 a0_2 false _ A2.out).mono ?_);rintro e w71 ⟨rfl,hb⟩;refine ⟨_,rfl,?_⟩;have n_:=Zb (bb_ BK669 hb) (hs_ HB hb);clear BK669 HB;obtain ⟨BK669,HB⟩:=n_;(try clear hb)))
  go_ret2;exact ⟨_,er_,(by first|exact Kd.V_nil _ _ _ _ _|exact Kd.N_V (Kd.N_nil _ _ _ _ _)),bl_⟩
 subst c3;rw [Ya rfl] at H;obtain ⟨⟨t671,t672,t673,t674,t675,t676⟩,A4,H⟩:=ob_ H
 (try dsimp only at H)
 by_cases c5:a0_0=1
 ·rw [Ya c5] at H;have c5b0:(a0_0==1)=true:=Ye c5;have c5b1:(a0_0 !=1)=false:=Yc c5;clear c5;obtain ⟨⟨t678,t681⟩,A6,H⟩:=ob_ H
  (try dsimp only at H)
  simp only [Zx,Zy] at H;obtain ⟨rfl,rfl⟩:=H;go_enter Tryz.func51,Tryz.ntmps51
  go_wp2_with (first|((with_reducible refine aUz (N:=1) rfl ?_);refine bx_ 1 #[.int .i64 a0_0, .int .i64 a0_1, .int .i64 a0_2] 23 ?_;intro gb669 hg w7 hbox hb;have n_:=Zb (hs_ HB hb) (Zb (Za (hbox)) (Zb (ag_ HB gb669) (ag_ HB gb669)));clear HB;obtain ⟨HB,BK669,GW669,GE669⟩:=n_;clear hb hbox hg;obtain ⟨hcz8_0,hfz8_0,hcz8_1,hfz8_1,hcz8_2,hfz8_2⟩:=bc3_ BK669.out)|((with_reducible refine abz (f:=48) rfl ?_);refine gl_ (some 9) Tryz.func48 #[.agg #[.int .i64 a0_0, .int .i64 a0_1, .int .i64 a0_2]] ?_;(with_reducible refine (biz.calls a0_0 a0_1 a0_2 true _ A2.out).mono ?_);rintro e w9 ⟨rfl,hb⟩;refine ⟨_,rfl,?_⟩;have n_:=Zb (bb_ BK669 hb) (hs_ HB hb);clear BK669 HB;obtain ⟨BK669,HB⟩:=n_;(try clear hb);obtain ⟨hcz10_0,hfz10_0,hcz10_1,hfz10_1,hcz10_2,hfz10_2⟩:=bc3_ BK669.out)|((with_reducible refine abz (f:=50) rfl ?_);refine gl_ (some 14) Tryz.func50 #[.int .i64 a0_0] ?_;(with_reducible refine (aRz.calls a0_0 t671 t672 t673 t674 t675 t676 _ A4.out).mono ?_);rintro e w11 ⟨rfl,hb⟩;refine ⟨_,rfl,?_⟩;have n_:=Zb (bb_ BK669 hb) (hs_ HB hb);clear BK669 HB;obtain ⟨BK669,HB⟩:=n_;(try clear hb))|((with_reducible refine aUz (N:=4) rfl ?_);refine b4z ?hg (N:=4) ?hd (cs:= #[.string (⟨#[]⟩:ByteArray), .int .i64 0, .int .u32 0, .int .u8 0, .int .i64 0]) (t:=79) ?hr ?_;(case hd=>rfl);(case hg=>rfl);(case hr=>first|(go_simp;done)|(go_simp;rfl));intro gb677 hg w12 hbox hb;have n_:=Zb (bb_ BK669 hb) (Zb (hs_ HB hb) (Zb (Za (hbox)) (Zb (ag_ HB gb677) (Zb (ag_ HB gb677) (Zb (n1_ BK669 gb677) (n2_ BK669 gb677))))));clear BK669 HB;obtain ⟨BK669,HB,BK677,GW677,GE677,NB669_677,NB677_669⟩:=n_;clear hb hbox hg;have hnb13:=NB677_669.out;have hnc13:=NB669_677.out;obtain ⟨hcz14_0,hfz14_0,hcz14_1,hfz14_1,hcz14_2,hfz14_2,hcz14_3,hfz14_3,hcz14_4,hfz14_4⟩:=bc5_ BK677.out;obtain ⟨hcz15_0,hfz15_0,hcz15_1,hfz15_1,hcz15_2,hfz15_2⟩:=bc3_ BK669.out)|((with_reducible refine abz (f:=83) rfl ?_);refine gl_ (some 29) Tryz.func83 #[.int .i64 t672, .int .u32 t673, .int .i64 a0_1, .int .i64 a0_2] ?_;(with_reducible refine (aaz.calls k t672 t673 a0_1 a0_2 t678 t681 _ A6.out).mono ?_);rintro e w16 ⟨v679,rfl,ho0,hb⟩;refine ⟨_,rfl,?_⟩;have n_:=Zb (Za (Kd.bUz (Kd.bRz (ok':=fun k_=>(w.heap.size<=k_)/\k_≠gb669/\k_≠gb677) ho0 (fun k_ hk_=>⟨(Zt (acz bl_) hk_),(Kd.freshB (g:=gb669) (o:= .cells #[.int .i64 a0_0, .int .i64 a0_1, .int .i64 a0_2] 23 (0,0)) kb_ k_ hk_),(Kd.freshB (g:=gb677) (o:= .cells #[.string t671, .int .i64 t672, .int .u32 t673, .int .u8 t674, .int .i64 t675] 79 (0,0)) kb_ k_ hk_)⟩)) (acz bl_))) (Zb (Za (aLz (g:=gb669) (o:= .cells #[.int .i64 a0_0, .int .i64 a0_1, .int .i64 a0_2] 23 (0,0)) kb_ hb)) (Zb (Za (aLz (g:=gb677) (o:= .cells #[.string t671, .int .i64 t672, .int .u32 t673, .int .u8 t674, .int .i64 t675] 79 (0,0)) kb_ hb)) (hs_ HB hb)));clear BK669 BK677 HB;obtain ⟨HO680,BK669,BK677,HB⟩:=n_;clear hb ho0))
  go_ret2;exact ⟨_,er_,Kd.N_V (nm_ HO680),bl_⟩
 ·rw [Yb c5] at H;have c5b0:(a0_0==1)=false:=Zq c5;have c5b1:(a0_0 !=1)=true:=Yd c5;by_cases c17:a0_0=2
  ·rw [Ya c17] at H;have c17b0:(a0_0==2)=true:=Ye c17;have c17b1:(a0_0 !=2)=false:=Yc c17;clear c17;obtain ⟨⟨t682,t683⟩,A18,H⟩:=ob_ H
   (try dsimp only at H)
   simp only [Zx,Zy] at H;obtain ⟨rfl,rfl⟩:=H;go_enter Tryz.func51,Tryz.ntmps51
   go_wp2_with (first|((with_reducible refine aUz (N:=1) rfl ?_);refine bx_ 1 #[.int .i64 a0_0, .int .i64 a0_1, .int .i64 a0_2] 23 ?_;intro gb669 hg w19 hbox hb;have n_:=Zb (hs_ HB hb) (Zb (Za (hbox)) (Zb (ag_ HB gb669) (ag_ HB gb669)));clear HB;obtain ⟨HB,BK669,GW669,GE669⟩:=n_;clear hb hbox hg;obtain ⟨hcz20_0,hfz20_0,hcz20_1,hfz20_1,hcz20_2,hfz20_2⟩:=bc3_ BK669.out)|((with_reducible refine abz (f:=48) rfl ?_);refine gl_ (some 9) Tryz.func48 #[.agg #[.int .i64 a0_0, .int .i64 a0_1, .int .i64 a0_2]] ?_;(with_reducible refine (biz.calls a0_0 a0_1 a0_2 true _ A2.out).mono ?_);rintro e w21 ⟨rfl,hb⟩;refine ⟨_,rfl,?_⟩;have n_:=Zb (bb_ BK669 hb) (hs_ HB hb);clear BK669 HB;obtain ⟨BK669,HB⟩:=n_;(try clear hb);obtain ⟨hcz22_0,hfz22_0,hcz22_1,hfz22_1,hcz22_2,hfz22_2⟩:=bc3_ BK669.out)|((with_reducible refine abz (f:=50) rfl ?_);refine gl_ (some 14) Tryz.func50 #[.int .i64 a0_0] ?_;(with_reducible refine (aRz.calls a0_0 t671 t672 t673 t674 t675 t676 _ A4.out).mono ?_);rintro e w23 ⟨rfl,hb⟩;refine ⟨_,rfl,?_⟩;have n_:=Zb (bb_ BK669 hb) (hs_ HB hb);clear BK669 HB;obtain ⟨BK669,HB⟩:=n_;(try clear hb))|((with_reducible refine aUz (N:=4) rfl ?_);refine b4z ?hg (N:=4) ?hd (cs:= #[.string (⟨#[]⟩:ByteArray), .int .i64 0, .int .u32 0, .int .u8 0, .int .i64 0]) (t:=79) ?hr ?_;(case hd=>rfl);(case hg=>rfl);(case hr=>first|(go_simp;done)|(go_simp;rfl));intro gb677 hg w24 hbox hb;have n_:=Zb (bb_ BK669 hb) (Zb (hs_ HB hb) (Zb (Za (hbox)) (Zb (ag_ HB gb677) (Zb (ag_ HB gb677) (Zb (n1_ BK669 gb677) (n2_ BK669 gb677))))));clear BK669 HB;obtain ⟨BK669,HB,BK677,GW677,GE677,NB669_677,NB677_669⟩:=n_;clear hb hbox hg;have hnb25:=NB677_669.out;have hnc25:=NB669_677.out;obtain ⟨hcz26_0,hfz26_0,hcz26_1,hfz26_1,hcz26_2,hfz26_2,hcz26_3,hfz26_3,hcz26_4,hfz26_4⟩:=bc5_ BK677.out;obtain ⟨hcz27_0,hfz27_0,hcz27_1,hfz27_1,hcz27_2,hfz27_2⟩:=bc3_ BK669.out)|((with_reducible refine abz (f:=84) rfl ?_);refine gl_ (some 42) Tryz.func84 #[.int .i64 t672, .int .u32 t673, .int .i64 a0_1, .int .i64 a0_2] ?_;(with_reducible refine (asz.calls k t672 t673 a0_1 a0_2 t682 t683 _ A18.out).mono ?_);rintro e w28 ⟨v684,rfl,ho0,hb⟩;refine ⟨_,rfl,?_⟩;have n_:=Zb (Za (Kd.bUz (Kd.bRz (ok':=fun k_=>(w.heap.size<=k_)/\k_≠gb669/\k_≠gb677) (Kd.S_N (Kd.bEz ho0)) (fun k_ hk_=>⟨(Zt (acz bl_) hk_.2.1),(Kd.freshB (g:=gb669) (o:= .cells #[.int .i64 a0_0, .int .i64 a0_1, .int .i64 a0_2] 23 (0,0)) kb_ k_ hk_.2.1),(Kd.freshB (g:=gb677) (o:= .cells #[.string t671, .int .i64 t672, .int .u32 t673, .int .u8 t674, .int .i64 t675] 79 (0,0)) kb_ k_ hk_.2.1)⟩)) (acz bl_))) (Zb (Za (aLz (g:=gb669) (o:= .cells #[.int .i64 a0_0, .int .i64 a0_1, .int .i64 a0_2] 23 (0,0)) kb_ hb)) (Zb (Za (aLz (g:=gb677) (o:= .cells #[.string t671, .int .i64 t672, .int .u32 t673, .int .u8 t674, .int .i64 t675] 79 (0,0)) kb_ hb)) (hs_ HB hb)));clear BK669 BK677 HB;obtain ⟨HO685,BK669,BK677,HB⟩:=n_;clear hb ho0))
   go_ret2;exact ⟨_,er_,Kd.N_V (nm_ HO685),bl_⟩
  ·rw [Yb c17] at H;have c17b0:(a0_0==2)=false:=Zq c17;have c17b1:(a0_0 !=2)=true:=Yd c17;by_cases c29:a0_0=3
   ·rw [Ya c29] at H;have c29b0:(a0_0==3)=true:=Ye c29;have c29b1:(a0_0 !=3)=false:=Yc c29;clear c29;obtain ⟨⟨t686,t687⟩,A30,H⟩:=ob_ H
    (try dsimp only at H)
    simp only [Zx,Zy] at H;obtain ⟨rfl,rfl⟩:=H;go_enter Tryz.func51,Tryz.ntmps51
    go_wp2_with (first|((with_reducible refine aUz (N:=1) rfl ?_);refine bx_ 1 #[.int .i64 a0_0, .int .i64 a0_1, .int .i64 a0_2] 23 ?_;intro gb669 hg w31 hbox hb;have n_:=Zb (hs_ HB hb) (Zb (Za (hbox)) (Zb (ag_ HB gb669) (ag_ HB gb669)));clear HB;obtain ⟨HB,BK669,GW669,GE669⟩:=n_;clear hb hbox hg;obtain ⟨hcz32_0,hfz32_0,hcz32_1,hfz32_1,hcz32_2,hfz32_2⟩:=bc3_ BK669.out)|((with_reducible refine abz (f:=48) rfl ?_);refine gl_ (some 9) Tryz.func48 #[.agg #[.int .i64 a0_0, .int .i64 a0_1, .int .i64 a0_2]] ?_;(with_reducible refine (biz.calls a0_0 a0_1 a0_2 true _ A2.out).mono ?_);rintro e w33 ⟨rfl,hb⟩;refine ⟨_,rfl,?_⟩;have n_:=Zb (bb_ BK669 hb) (hs_ HB hb);clear BK669 HB;obtain ⟨BK669,HB⟩:=n_;(try clear hb);obtain ⟨hcz34_0,hfz34_0,hcz34_1,hfz34_1,hcz34_2,hfz34_2⟩:=bc3_ BK669.out)|((with_reducible refine abz (f:=50) rfl ?_);refine gl_ (some 14) Tryz.func50 #[.int .i64 a0_0] ?_;(with_reducible refine (aRz.calls a0_0 t671 t672 t673 t674 t675 t676 _ A4.out).mono ?_);rintro e w35 ⟨rfl,hb⟩;refine ⟨_,rfl,?_⟩;have n_:=Zb (bb_ BK669 hb) (hs_ HB hb);clear BK669 HB;obtain ⟨BK669,HB⟩:=n_;(try clear hb))|((with_reducible refine aUz (N:=4) rfl ?_);refine b4z ?hg (N:=4) ?hd (cs:= #[.string (⟨#[]⟩:ByteArray), .int .i64 0, .int .u32 0, .int .u8 0, .int .i64 0]) (t:=79) ?hr ?_;(case hd=>rfl);(case hg=>rfl);(case hr=>first|(go_simp;done)|(go_simp;rfl));intro gb677 hg w36 hbox hb;have n_:=Zb (bb_ BK669 hb) (Zb (hs_ HB hb) (Zb (Za (hbox)) (Zb (ag_ HB gb677) (Zb (ag_ HB gb677) (Zb (n1_ BK669 gb677) (n2_ BK669 gb677))))));clear BK669 HB;obtain ⟨BK669,HB,BK677,GW677,GE677,NB669_677,NB677_669⟩:=n_;clear hb hbox hg;have hnb37:=NB677_669.out;have hnc37:=NB669_677.out;obtain ⟨hcz38_0,hfz38_0,hcz38_1,hfz38_1,hcz38_2,hfz38_2,hcz38_3,hfz38_3,hcz38_4,hfz38_4⟩:=bc5_ BK677.out;obtain ⟨hcz39_0,hfz39_0,hcz39_1,hfz39_1,hcz39_2,hfz39_2⟩:=bc3_ BK669.out)|((with_reducible refine abz (f:=85) rfl ?_);refine gl_ (some 55) Tryz.func85 #[.int .i64 t672, .int .u32 t673, .int .i64 a0_1, .int .i64 a0_2] ?_;(with_reducible refine (alz.calls k t672 t673 a0_1 a0_2 t686 t687 _ A30.out).mono ?_);rintro e w40 ⟨v688,rfl,ho0,hb⟩;refine ⟨_,rfl,?_⟩;have n_:=Zb (Za (Kd.bUz (Kd.bRz (ok':=fun k_=>(w.heap.size<=k_)/\k_≠gb669/\k_≠gb677) (Kd.S_N (Kd.bEz ho0)) (fun k_ hk_=>⟨(Zt (acz bl_) hk_.2.1),(Kd.freshB (g:=gb669) (o:= .cells #[.int .i64 a0_0, .int .i64 a0_1, .int .i64 a0_2] 23 (0,0)) kb_ k_ hk_.2.1),(Kd.freshB (g:=gb677) (o:= .cells #[.string t671, .int .i64 t672, .int .u32 t673, .int .u8 t674, .int .i64 t675] 79 (0,0)) kb_ k_ hk_.2.1)⟩)) (acz bl_))) (Zb (Za (aLz (g:=gb669) (o:= .cells #[.int .i64 a0_0, .int .i64 a0_1, .int .i64 a0_2] 23 (0,0)) kb_ hb)) (Zb (Za (aLz (g:=gb677) (o:= .cells #[.string t671, .int .i64 t672, .int .u32 t673, .int .u8 t674, .int .i64 t675] 79 (0,0)) kb_ hb)) (hs_ HB hb)));clear BK669 BK677 HB;obtain ⟨HO689,BK669,BK677,HB⟩:=n_;clear hb ho0))
    go_ret2;exact ⟨_,er_,Kd.N_V (nm_ HO689),bl_⟩
   ·rw [Yb c29] at H;have c29b0:(a0_0==3)=false:=Zq c29;have c29b1:(a0_0 !=3)=true:=Yd c29;by_cases c41:a0_0=4
    ·rw [Ya c41] at H;have c41b0:(a0_0==4)=true:=Ye c41;have c41b1:(a0_0 !=4)=false:=Yc c41;clear c41;obtain ⟨⟨t690,t691⟩,A42,H⟩:=ob_ H
     (try dsimp only at H)
     simp only [Zx,Zy] at H;obtain ⟨rfl,rfl⟩:=H;go_enter Tryz.func51,Tryz.ntmps51
     go_wp2_with (first|((with_reducible refine aUz (N:=1) rfl ?_);refine bx_ 1 #[.int .i64 a0_0, .int .i64 a0_1, .int .i64 a0_2] 23 ?_;intro gb669 hg w43 hbox hb;have n_:=Zb (hs_ HB hb) (Zb (Za (hbox)) (Zb (ag_ HB gb669) (ag_ HB gb669)));clear HB;obtain ⟨HB,BK669,GW669,GE669⟩:=n_;clear hb hbox hg;obtain ⟨hcz44_0,hfz44_0,hcz44_1,hfz44_1,hcz44_2,hfz44_2⟩:=bc3_ BK669.out)|((with_reducible refine abz (f:=48) rfl ?_);refine gl_ (some 9) Tryz.func48 #[.agg #[.int .i64 a0_0, .int .i64 a0_1, .int .i64 a0_2]] ?_;(with_reducible refine (biz.calls a0_0 a0_1 a0_2 true _ A2.out).mono ?_);rintro e w45 ⟨rfl,hb⟩;refine ⟨_,rfl,?_⟩;have n_:=Zb (bb_ BK669 hb) (hs_ HB hb);clear BK669 HB;obtain ⟨BK669,HB⟩:=n_;(try clear hb);obtain ⟨hcz46_0,hfz46_0,hcz46_1,hfz46_1,hcz46_2,hfz46_2⟩:=bc3_ BK669.out)|((with_reducible refine abz (f:=50) rfl ?_);refine gl_ (some 14) Tryz.func50 #[.int .i64 a0_0] ?_;(with_reducible refine (aRz.calls a0_0 t671 t672 t673 t674 t675 t676 _ A4.out).mono ?_);rintro e w47 ⟨rfl,hb⟩;refine ⟨_,rfl,?_⟩;have n_:=Zb (bb_ BK669 hb) (hs_ HB hb);clear BK669 HB;obtain ⟨BK669,HB⟩:=n_;(try clear hb))|((with_reducible refine aUz (N:=4) rfl ?_);refine b4z ?hg (N:=4) ?hd (cs:= #[.string (⟨#[]⟩:ByteArray), .int .i64 0, .int .u32 0, .int .u8 0, .int .i64 0]) (t:=79) ?hr ?_;(case hd=>rfl);(case hg=>rfl);(case hr=>first|(go_simp;done)|(go_simp;rfl));intro gb677 hg w48 hbox hb;have n_:=Zb (bb_ BK669 hb) (Zb (hs_ HB hb) (Zb (Za (hbox)) (Zb (ag_ HB gb677) (Zb (ag_ HB gb677) (Zb (n1_ BK669 gb677) (n2_ BK669 gb677))))));clear BK669 HB;obtain ⟨BK669,HB,BK677,GW677,GE677,NB669_677,NB677_669⟩:=n_;clear hb hbox hg;have hnb49:=NB677_669.out;have hnc49:=NB669_677.out;obtain ⟨hcz50_0,hfz50_0,hcz50_1,hfz50_1,hcz50_2,hfz50_2,hcz50_3,hfz50_3,hcz50_4,hfz50_4⟩:=bc5_ BK677.out;obtain ⟨hcz51_0,hfz51_0,hcz51_1,hfz51_1,hcz51_2,hfz51_2⟩:=bc3_ BK669.out)|((with_reducible refine abz (f:=86) rfl ?_);refine gl_ (some 68) Tryz.func86 #[.int .i64 t672, .int .u32 t673, .int .i64 a0_1, .int .i64 a0_2] ?_;(with_reducible refine (atz.calls k t672 t673 a0_1 a0_2 t690 t691 _ A42.out).mono ?_);rintro e w52 ⟨v692,rfl,ho0,hb⟩;refine ⟨_,rfl,?_⟩;have n_:=Zb (Za (Kd.bUz (Kd.bRz (ok':=fun k_=>(w.heap.size<=k_)/\k_≠gb669/\k_≠gb677) (Kd.S_N (Kd.bEz ho0)) (fun k_ hk_=>⟨(Zt (acz bl_) hk_.2.1),(Kd.freshB (g:=gb669) (o:= .cells #[.int .i64 a0_0, .int .i64 a0_1, .int .i64 a0_2] 23 (0,0)) kb_ k_ hk_.2.1),(Kd.freshB (g:=gb677) (o:= .cells #[.string t671, .int .i64 t672, .int .u32 t673, .int .u8 t674, .int .i64 t675] 79 (0,0)) kb_ k_ hk_.2.1)⟩)) (acz bl_))) (Zb (Za (aLz (g:=gb669) (o:= .cells #[.int .i64 a0_0, .int .i64 a0_1, .int .i64 a0_2] 23 (0,0)) kb_ hb)) (Zb (Za (aLz (g:=gb677) (o:= .cells #[.string t671, .int .i64 t672, .int .u32 t673, .int .u8 t674, .int .i64 t675] 79 (0,0)) kb_ hb)) (hs_ HB hb)));clear BK669 BK677 HB;obtain ⟨HO693,BK669,BK677,HB⟩:=n_;clear hb ho0))
     go_ret2;exact ⟨_,er_,Kd.N_V (nm_ HO693),bl_⟩
    ·rw [Yb c41] at H;have c41b0:(a0_0==4)=false:=Zq c41;have c41b1:(a0_0 !=4)=true:=Yd c41;obtain ⟨⟨t694,t697⟩,A53,H⟩:=ob_ H
     (try dsimp only at H)
     by_cases c54:0<=a0_1
     rotate_left
     ·rw [Yb c54] at H;exact Yf H (by simp)
     rw [Ya c54] at H;have c54b0:=Zz c54;have c54b1:=Zd c54;clear c54;by_cases c55:a0_1<=(t694.length:Int)
     rotate_left
     ·rw [Yb c55] at H;exact Yf H (by simp)
     rw [Ya c55] at H;have c55b0:=Zz c55;have c55b1:=Zd c55;clear c55;obtain ⟨y698,hy698⟩: ∃y_:List (List Int),y_=(t694.drop (a0_1:Int).toNat):=⟨_,rfl⟩
     first|rw [Zl, <-hy698] at H|rw [<-hy698] at H
     (try dsimp only at H)
     have Ny698:=Za hy698;clear hy698;simp only [Zx,Zy] at H;obtain ⟨rfl,rfl⟩:=H;go_enter Tryz.func51,Tryz.ntmps51
     go_wp2_with (first|((with_reducible refine aUz (N:=1) rfl ?_);refine bx_ 1 #[.int .i64 a0_0, .int .i64 a0_1, .int .i64 a0_2] 23 ?_;intro gb669 hg w56 hbox hb;have n_:=Zb (hs_ HB hb) (Zb (Za (hbox)) (Zb (ag_ HB gb669) (ag_ HB gb669)));clear HB;obtain ⟨HB,BK669,GW669,GE669⟩:=n_;clear hb hbox hg;obtain ⟨hcz57_0,hfz57_0,hcz57_1,hfz57_1,hcz57_2,hfz57_2⟩:=bc3_ BK669.out)|((with_reducible refine abz (f:=48) rfl ?_);refine gl_ (some 9) Tryz.func48 #[.agg #[.int .i64 a0_0, .int .i64 a0_1, .int .i64 a0_2]] ?_;(with_reducible refine (biz.calls a0_0 a0_1 a0_2 true _ A2.out).mono ?_);rintro e w58 ⟨rfl,hb⟩;refine ⟨_,rfl,?_⟩;have n_:=Zb (bb_ BK669 hb) (hs_ HB hb);clear BK669 HB;obtain ⟨BK669,HB⟩:=n_;(try clear hb);obtain ⟨hcz59_0,hfz59_0,hcz59_1,hfz59_1,hcz59_2,hfz59_2⟩:=bc3_ BK669.out)|((with_reducible refine abz (f:=50) rfl ?_);refine gl_ (some 14) Tryz.func50 #[.int .i64 a0_0] ?_;(with_reducible refine (aRz.calls a0_0 t671 t672 t673 t674 t675 t676 _ A4.out).mono ?_);rintro e w60 ⟨rfl,hb⟩;refine ⟨_,rfl,?_⟩;have n_:=Zb (bb_ BK669 hb) (hs_ HB hb);clear BK669 HB;obtain ⟨BK669,HB⟩:=n_;(try clear hb))|((with_reducible refine aUz (N:=4) rfl ?_);refine b4z ?hg (N:=4) ?hd (cs:= #[.string (⟨#[]⟩:ByteArray), .int .i64 0, .int .u32 0, .int .u8 0, .int .i64 0]) (t:=79) ?hr ?_;(case hd=>rfl);(case hg=>rfl);(case hr=>first|(go_simp;done)|(go_simp;rfl));intro gb677 hg w61 hbox hb;have n_:=Zb (bb_ BK669 hb) (Zb (hs_ HB hb) (Zb (Za (hbox)) (Zb (ag_ HB gb677) (Zb (ag_ HB gb677) (Zb (n1_ BK669 gb677) (n2_ BK669 gb677))))));clear BK669 HB;obtain ⟨BK669,HB,BK677,GW677,GE677,NB669_677,NB677_669⟩:=n_;clear hb hbox hg;have hnb62:=NB677_669.out;have hnc62:=NB669_677.out;obtain ⟨hcz63_0,hfz63_0,hcz63_1,hfz63_1,hcz63_2,hfz63_2,hcz63_3,hfz63_3,hcz63_4,hfz63_4⟩:=bc5_ BK677.out;obtain ⟨hcz64_0,hfz64_0,hcz64_1,hfz64_1,hcz64_2,hfz64_2⟩:=bc3_ BK669.out)|((with_reducible refine abz (f:=87) rfl ?_);refine gl_ (some 80) Tryz.func87 #[.int .i64 t672, .int .u32 t673, .int .i64 a0_1, .int .i64 a0_2] ?_;(with_reducible refine (apz.calls k t672 t673 a0_1 a0_2 t694 t697 _ A53.out).mono ?_);rintro e w65 ⟨v695,rfl,ho0,hb⟩;refine ⟨_,rfl,?_⟩;have n_:=Zb (Za (Kd.bUz (Kd.bRz (ok':=fun k_=>(w.heap.size<=k_)/\k_≠gb669/\k_≠gb677) ho0 (fun k_ hk_=>⟨(Zt (acz bl_) hk_),(Kd.freshB (g:=gb669) (o:= .cells #[.int .i64 a0_0, .int .i64 a0_1, .int .i64 a0_2] 23 (0,0)) kb_ k_ hk_),(Kd.freshB (g:=gb677) (o:= .cells #[.string t671, .int .i64 t672, .int .u32 t673, .int .u8 t674, .int .i64 t675] 79 (0,0)) kb_ k_ hk_)⟩)) (acz bl_))) (Zb (Za (aLz (g:=gb669) (o:= .cells #[.int .i64 a0_0, .int .i64 a0_1, .int .i64 a0_2] 23 (0,0)) kb_ hb)) (Zb (Za (aLz (g:=gb677) (o:= .cells #[.string t671, .int .i64 t672, .int .u32 t673, .int .u8 t674, .int .i64 t675] 79 (0,0)) kb_ hb)) (hs_ HB hb)));clear BK669 BK677 HB;obtain ⟨HO696,BK669,BK677,HB⟩:=n_;clear hb ho0;obtain ⟨hcz66_0,hfz66_0,hcz66_1,hfz66_1,hcz66_2,hfz66_2⟩:=bc3_ BK669.out;obtain ⟨Ao68,co68,eo68⟩:=Kd.clz HO696.out;subst eo68;have q67:(a0_1:Int)<=((t694.length:Int):Int):=Zc as_;obtain ⟨i067,hi067,_,hsz67,_⟩:=info_parts info57;have hroom67:t694.length<=co68:=(Kd.btz HO696.out).2.1;have hC67:Kd.F (Kd.slice 3 (Kd.int .i64)) _ _ Ao68 t694.length t694:=(Kd.V_at (base:=w.heap.size) (Kd.N_V HO696.out)).2.2;have q067:(0:Int)<=(a0_1:Int):=Zc as_;have hcut67:=eLz (P:=Tryz.prog) 68 57 .i64 Tryz.underlying68 hi067 1 hsz67 Ao68 t694.length co68 a0_1 q067 q67;have hr67:=Kd.F_cut (m:=(a0_1:Int).toNat) (c:=co68) hC67 (by omega) hroom67;obtain ⟨A67,hA67⟩: ∃Aq_,Aq_=(if co68=(a0_1:Int).toNat then Ao68 else (Ao68:Option Addr).map (·.add ((a0_1:Int).toNat*1))):=⟨_,rfl⟩;obtain ⟨c67,hc67⟩: ∃cq_,cq_=co68 - (a0_1:Int).toNat:=⟨_,rfl⟩;have hy67:y698.length=t694.length - (a0_1:Int).toNat:=(by rw [Ny698.out,List.length_drop] <;>omega);rw [show (t694).drop (a0_1:Int).toNat=y698 from Ny698.out.symm] at hr67;replace hr67:Kd.F (Kd.slice 3 (Kd.int .i64)) _ _ A67 y698.length y698:=(by rw [hA67];exact hr67);rw [<-hy67, <-hA67, <-hc67] at hcut67;have HO702:=Za (show Kd.V (Kd.slice 3 (Kd.int .i64)) 57 _ w.heap.size _ (.slice A67 y698.length c67) y698 from Kd.V_mk (by rw [hy67,hc67];exact Nat.sub_le_sub_right hroom67 _) hr67);have HC702:=Za (show y698.length<=c67 from by rw [hy67,hc67];exact Nat.sub_le_sub_right hroom67 _);clear hr67 hC67 hroom67 hi067 hsz67 hc67;have KY67:=Za hy67;have KA67:=Za hA67;clear hy67 hA67;replace q67:=Zz q67))
     go_ret2;exact ⟨_,er_,vm_ HO702,bl_⟩
def aVz.l0:Nat->List Int->List Int->List Int->Int->Option (List Int×Bool)
 |0,_,_,_,_=>none
 |k+1,x0,x1,x6,x7=>if x7<(x0.length:Int) then (if 0<=x7 then (if x7<(x1.length:Int) then (if x6.length<140737488355328 then (aVz.l0 k x0 x1 (x6++ [Go.bits .xor .u8 (rd x0 x7) (rd x1 x7)]) (wrap64 (x7+1))) else (none)) else (none)) else (none)) else (some (x6,true))
def aVz.f (k:Nat) (l0:List Int) (l1:List Int):Option (List Int×Bool):=if (l0.length:Int)=(l1.length:Int) then (aVz.l0 k l0 l1 ([] :List Int) 0) else (some (([] :List Int),false))
def aVz.T7:Bool×List (List Nat×List Nat):=(true, [([], []),([], []),([], []),([1,2], [1,2]),([3], [3]),([], []),([], []),([5,6], [5,6]),([7], [7]),([4,8], [4,8]),([9], [9]),([0,10], [0,10]),([11,11,0,1,2,3,4,5,6,7,8,9,10,11], [0,11])])
def aVz.B7:List Nat:= [0,0,0,6,14,0,0,96,224,510,1022,2047,4095]
theorem aVz.tab7:rtab .any (opsOf Tryz.f70 7)=aVz.T7:=by kernel_rfl
theorem aVz.bits7:waitsOk aVz.T7.2 aVz.B7=true:=by kernel_rfl
theorem aVz.calls (k : Nat) (A0 : Option Addr) (c0 : Nat) (l0 : List Int) (A1 : Option Addr) (c1 : Nat) (l1 : List Int) (r1 : List Int) (r2 : Bool) (w : World) (hr0 : Kd.C (Kd.int .u8) w A0 l0.length l0) (hc0 : l0.length <= c0) (hr1 : Kd.C (Kd.int .u8) w A1 l1.length l1) (hc1 : l1.length <= c1) (h : aVz.f k l0 l1 = some (r1, r2)) :
  Calls Tryz.prog 70 #[.slice A0 l0.length c0, .slice A1 l1.length c1] w fun e w'=> ∃v0_:Value,e= .returned (.tuple #[v0_, .bool r2])/\Kd.R (Kd.int .u8) 5 w' w.heap.size (fun _=>True) v0_ r1/\Below w.heap.size w w':=by
 have HR0:=Za hr0;have HC0:=Za hc0;clear hr0 hc0;have HR1:=Za hr1;have HC1:=Za hc1;clear hr1 hc1;have HB:=Za (Zw w.heap.size w);have H:=h;clear h;unfold aVz.f at H;by_cases c3:(l0.length:Int)=(l1.length:Int)
 rotate_left
 ·rw [Yb c3] at H;have c3b0:((l0.length:Int)==(l1.length:Int))=false:=Zq c3;have c3b1:((l0.length:Int) !=(l1.length:Int))=true:=Yd c3
  have c3b2:(l0.length==l1.length)=false:=by first|simpa using c3|(simp at c3|-;omega)
  simp only [Zx,Zy] at H;obtain ⟨rfl,rfl⟩:=H;go_enter Tryz.func70,Tryz.ntmps70;go_wp2;go_ret2;exact ⟨_,er_,nl_,bl_⟩
 rw [Ya c3] at H;have c3b0:((l0.length:Int)==(l1.length:Int))=true:=Ye c3;have c3b1:((l0.length:Int) !=(l1.length:Int))=false:=Yc c3
 have c3b2:(l0.length==l1.length)=true:=by first|simpa using c3|(simp at c3|-;omega)
 clear c3;have H':=Za H;clear H;go_enter Tryz.func70,Tryz.ntmps70;go_wp2
 go_loopg [6,7] k (fun kq v6 v7 w'=> ∃(x6_1:List Int) (x7_1:Int),v7= .int .i64 x7_1/\Aside0 (aVz.l0 kq l0 l1 x6_1 x7_1=some (r1,r2))/\Aside0 (kq<=k)/\Aside0 (Kd.R (Kd.int .u8) 5 w' w.heap.size (fun _=>True) v6 x6_1)/\Aside0 (Below w.heap.size w w'))
 case atStart=>exact ⟨(([] :List Int)),(0),sd_,H',⟨Zv _⟩,⟨nl_⟩,⟨bl_⟩⟩
 clear H'
 try clear c1
 try clear p2
 try clear c3
 try clear c3b0
 try clear c3b1
 try clear c3b2
 obtain ⟨x6_1,x7_1,rfl,HA,HK1,HO_6,HB⟩:=hrel;rcases gk with _|k1
 ·exact Yf HA.out (by simp [aVz.l0])
 have H:=HA.out;clear HA;simp only [aVz.l0] at H;by_cases c4:x7_1<(l0.length:Int)
 rotate_left
 ·rw [Yb c4] at H;have c4b0:=Ze c4;clear c4;simp only [Zx,Zy] at H;obtain ⟨rfl,rfl⟩:=H;go_wp2;go_ret2;exact ⟨_,er_,xd_ HO_6.out,bl_⟩
 rw [Ya c4] at H;have c4b0:=Zd c4;clear c4;by_cases c5:0<=x7_1
 rotate_left
 ·rw [Yb c5] at H;exact Yf H (by simp)
 rw [Ya c5] at H;have c5b0:=Zd c5;clear c5;by_cases c6:x7_1<(l1.length:Int)
 rotate_left
 ·rw [Yb c6] at H;exact Yf H (by simp)
 rw [Ya c6] at H;have c6b0:=Zd c6;clear c6;by_cases c7:x6_1.length<140737488355328
 rotate_left
 ·rw [Yb c7] at H;exact Yf H (by simp)
 rw [Ya c7] at H;have LMc7:=Za c7;clear c7;obtain ⟨y705,hy705⟩: ∃y_:List Int,y_=(x6_1++ [Go.bits .xor .u8 (rd l0 x7_1) (rd l1 x7_1)]):=⟨_,rfl⟩
 first|rw [Zl, <-hy705] at H|rw [<-hy705] at H
 (try dsimp only at H)
 have Ny705:=Za hy705;clear hy705;have H':=Za H;clear H
 try go_wp2
 have n_:=Zb (Za (Kd.cJz HO_6.out)) (Za (cnz HB.out));clear HO_6 HB;obtain ⟨HO_6,HB⟩:=n_;have p703:0<=(x7_1:Int):=Zc as_;have q703:x7_1<(l0.length:Int):=Zc as_;obtain ⟨ad703,e703,hx703_0⟩:=Kd.bqz HR0.out x7_1 p703 q703;have hw703_0:=hx703_0;cases e703
 replace hx703_0:=(HB.out.cell (Zj w _ hx703_0)).trans hx703_0;replace p703:=Zz p703;replace q703:=Zz q703;have p704:0<=(x7_1:Int):=Zc as_;have q704:x7_1<(l1.length:Int):=Zc as_;obtain ⟨ad704,e704,hx704_0⟩:=Kd.bqz HR1.out x7_1 p704 q704;have hw704_0:=hx704_0;cases e704
 replace hx704_0:=(HB.out.cell (Zj w _ hx704_0)).trans hx704_0;replace p704:=Zz p704;replace q704:=Zz q704;refine bXz (n:=13) (S:=fun w'=>w'.cell? (ad703.add (x7_1).toNat)=some (.int .u8 (rd l0 x7_1))/\w'.cell? (ad704.add (x7_1).toNat)=some (.int .u8 (rd l1 x7_1))) (ds:= []) (bA 13 0) kr_ rfl rfl ⟨((HB.out.cell (Zj w _ hw703_0)).trans hw703_0),((HB.out.cell (Zj w _ hw704_0)).trans hw704_0)⟩ (fun hHeld=> ?_);refine cUz aVz.tab7 aVz.bits7 (fun HT_ HW_=> ?_);generalize wr.drew=w8 at HO_6 HB hx703_0 hx704_0 hHeld|-;refine pv_ 0 19 1 HT_ ?_;refine pv_ 1 20 3 HT_ ?_;refine pv_ 2 21 7 HT_ ?_;refine pv_ 3 22 15 HT_ ?_;refine pv_ 5 24 47 HT_ ?_;refine pv_ 6 25 111 HT_ ?_;refine pv_ 7 26 239 HT_ ?_;refine tw_ 4 23 255 HT_ HW_ hHeld ?_;refine tw_ 8 27 511 HT_ HW_ hHeld ?_;refine pv_ 9 28 1023 HT_ ?_;refine one_ (i:=10) (N:=some 29) (bA 13 2047) rfl rfl (cZz HT_.out kr_) (by decide) (fun K hK=> ?_);refine ciz (w1:= ?_) (v:= ?_) (by rfl) rfl ?_ ?_
 rotate_left 2
 ·go_simp;constructor
  ·rfl
  ·rfl
 refine hK.out _ _ ⟨(World.cell?_alloc_lt _ _ _ (Zj _ _ (((HB.out.cell (Zj w _ hw703_0)).trans hw703_0)))).trans (((HB.out.cell (Zj w _ hw703_0)).trans hw703_0)),(World.cell?_alloc_lt _ _ _ (Zj _ _ (((HB.out.cell (Zj w _ hw704_0)).trans hw704_0)))).trans (((HB.out.cell (Zj w _ hw704_0)).trans hw704_0))⟩ (fun hHeld=> ?_);clear hK K;refine norm_ (a':= ?_) ?_ ?_;rotate_left
 ·show Act.put _ (some 29) _=_;simp only [Act.put,Zg,Zh,Zi,i64_w,i32_w];rfl
 refine one_ (i:=11) (N:=some 30) (bA 13 4095) rfl rfl (cZz HT_.out kr_) (by decide) (fun K hK=> ?_);refine Kd.dmz (Kd.int .u8) (w0:=w) w.heap.size (by rfl) (.tmp 19) (.tmp 29) 34 5 (.int .u8 0) 1 rfl Tryz.underlying34 info5 rfl (by decide) (by omega) u6 x6_1 (Go.bits .xor .u8 (rd l0 x7_1) (rd l1 x7_1)) [.int .u8 (Go.bits .xor .u8 (rd l0 x7_1) (rd l1 x7_1))] (fun _=>True) (fun _=>False) rfl rfl ?aP (fun _ hk=>hk.elim) ?aF ?aO ?aB ?aS ?aL ?_
 (case aP=>exact rfl)
 (case aB=>exact bl_)
 (case aF=>exact (fun _ _=>trivial))
 (case aO=>exact (xd_ HO_6.out))
 (case aS=>exact (acz bl_))
 (case aL=>have:=LMc7.out;omega)
 intro v706 w9 ho hb hg hat;rw [<-Ny705.out] at ho;have n_:=Zb (Za (hb)) (Za (ho));clear HB HO_6;obtain ⟨HB,HO707⟩:=n_;clear ho hb hg hat;refine hK.out _ _ ⟨((HB.out.cell (Zj w _ hw703_0)).trans hw703_0),((HB.out.cell (Zj w _ hw704_0)).trans hw704_0)⟩ (fun hHeld=> ?_);clear hK K;refine norm_ (a':= ?_) ?_ ?_;rotate_left
 ·show Act.put _ (some 30) _=_;simp only [Act.put,Zg,Zh,Zi,i64_w,i32_w];rfl
 refine pv_ 12 6 8191 HT_ ?_;refine done_ (dyz HT_.out kr_) ?_
 try go_wp2
 go_roundg k1
 case measure=>have:=HK1.out;omega
 case rel=>exact ⟨(y705),(wrap64 (x7_1+1)),sd_,H',⟨by have:=HK1.out;omega⟩,⟨xd_ HO707.out⟩,⟨bl_⟩⟩
def aXz.l0:Nat->List Int->List Int->Int->Int->Option (List Int×Bool)
 |0,_,_,_,_=>none
 |k+1,x1,x6,x7,x8=>if (wrap64 (x8+x7))<=(x1.length:Int) then (if 0<=x8 then (if x8<(x1.length:Int) then (if x7=2 then (if 0<=(wrap64 (x8+1)) then (if (wrap64 (x8+1))<(x1.length:Int) then (if x6.length<17592186044416 then (aXz.l0 k x1 (x6++ [wrap64 ((wrap64 (rd x1 x8))+(wrap64 (256*(wrap64 (rd x1 (wrap64 (x8+1)))))))]) x7 (wrap64 (x8+x7))) else (none)) else (none)) else (none)) else (if x6.length<17592186044416 then (aXz.l0 k x1 (x6++ [wrap64 (rd x1 x8)]) x7 (wrap64 (x8+x7))) else (none))) else (none)) else (none)) else (if x7=0 then (none) else (some (x6,(((x1.length:Int) % x7)==0))))
def aXz.f (k:Nat) (a0:Int) (l1:List Int):Option (List Int×Bool):=aXz.l0 k l1 ([] :List Int) (wrap64 (Int.tdiv a0 8)) 0
theorem aXz.calls (k : Nat) (a0 : Int) (A1 : Option Addr) (c1 : Nat) (l1 : List Int) (r1 : List Int) (r2 : Bool) (w : World) (hr1 : Kd.C (Kd.int .u8) w A1 l1.length l1) (hc1 : l1.length <= c1) (h : aXz.f k a0 l1 = some (r1, r2)) :
  Calls Tryz.prog 105 #[.int .i64 a0, .slice A1 l1.length c1] w fun e w'=> ∃v0_:Value,e= .returned (.tuple #[v0_, .bool r2])/\Kd.R (Kd.int .i64) 3 w' w.heap.size (fun _=>True) v0_ r1/\Below w.heap.size w w':=by
 have HR1:=Za hr1;have HC1:=Za hc1;clear hr1 hc1;have HB:=Za (Zw w.heap.size w);have H:=h;clear h;unfold aXz.f at H;have H':=Za H;clear H;go_enter Tryz.func105,Tryz.ntmps105;go_wp2
 repeat (go_quiet (fail);try go_wp2)
 go_loopg [6,8] k (fun kq v6 v8 w'=> ∃(x6_1:List Int) (x8_1:Int),v8= .int .i64 x8_1/\Aside0 (aXz.l0 kq l1 x6_1 (wrap64 (Int.tdiv a0 8)) x8_1=some (r1,r2))/\Aside0 (kq<=k)/\Aside0 (Kd.R (Kd.int .i64) 3 w' w.heap.size (fun _=>True) v6 x6_1)/\Aside0 (Below w.heap.size w w'))
 case atStart=>exact ⟨(([] :List Int)),(0),sd_,H',⟨Zv _⟩,⟨nl_⟩,⟨bl_⟩⟩
 clear H'
 try clear c1
 try clear p2
 obtain ⟨x6_1,x8_1,rfl,HA,HK1,HO_6,HB⟩:=hrel;rcases gk with _|k1
 ·exact Yf HA.out (by simp [aXz.l0])
 have H:=HA.out;clear HA;simp only [aXz.l0] at H;by_cases c3:(wrap64 (x8_1+(wrap64 (Int.tdiv a0 8))))<=(l1.length:Int)
 rotate_left
 ·rw [Yb c3] at H;have c3b0:=Ze c3;clear c3;by_cases c14:(wrap64 (Int.tdiv a0 8))=0
  ·rw [Ya c14] at H;exact Yf H (by simp)
  ·rw [Yb c14] at H;have c14b0:((wrap64 (Int.tdiv a0 8))==0)=false:=Zq c14;have c14b1:((wrap64 (Int.tdiv a0 8)) !=0)=true:=Yd c14;simp only [Zx,Zy] at H;obtain ⟨rfl,rfl⟩:=H;go_wp2
   repeat (go_quiet (fail);try go_wp2)
   go_ret2;exact ⟨_,er_,xd_ HO_6.out,bl_⟩
 rw [Ya c3] at H;have c3b0:=Zd c3;clear c3;by_cases c4:0<=x8_1
 rotate_left
 ·rw [Yb c4] at H;exact Yf H (by simp)
 rw [Ya c4] at H;have c4b0:=Zd c4;clear c4;by_cases c5:x8_1<(l1.length:Int)
 rotate_left
 ·rw [Yb c5] at H;exact Yf H (by simp)
 rw [Ya c5] at H;have c5b0:=Zd c5;clear c5;by_cases c6:(wrap64 (Int.tdiv a0 8))=2
 rotate_left
 ·rw [Yb c6] at H;have c6b0:((wrap64 (Int.tdiv a0 8))==2)=false:=Zq c6;have c6b1:((wrap64 (Int.tdiv a0 8)) !=2)=true:=Yd c6;by_cases c12:x6_1.length<17592186044416
  rotate_left
  ·rw [Yb c12] at H;exact Yf H (by simp)
  rw [Ya c12] at H;have LMc12:=Za c12;clear c12;obtain ⟨y713,hy713⟩: ∃y_:List Int,y_=(x6_1++ [wrap64 (rd l1 x8_1)]):=⟨_,rfl⟩
  first|rw [Zl, <-hy713] at H|rw [<-hy713] at H
  (try dsimp only at H)
  have Ny713:=Za hy713;clear hy713;have H':=Za H;clear H;have p708:0<=(x8_1:Int):=Zc as_;have q708:x8_1<(l1.length:Int):=Zc as_;obtain ⟨ad708,e708,hx708_0⟩:=Kd.bqz HR1.out x8_1 p708 q708;cases e708
  replace hx708_0:=(HB.out.cell (Zj w _ hx708_0)).trans hx708_0;replace p708:=Zz p708;replace q708:=Zz q708
  go_wp2_with (first|((with_reducible refine anz (b:= .append) (xs:= #[.tmp 37, .tmp 39]) rfl ?_);at_builtin;refine Kd.bjz (Kd.int .i64) (w0:=w) w.heap.size rfl (.tmp 37) (.tmp 39) 57 3 (.int .i64 0) 8 rfl Tryz.underlying57 info3 rfl (by decide) (by omega) u6 x6_1 (wrap64 (rd l1 x8_1)) [.int .i64 (wrap64 (rd l1 x8_1))] (fun _=>True) (fun _=>False) rfl rfl ?aP (fun _ hk=>hk.elim) ?aF ?aO ?aB ?aS ?aL ?_;(case aP=>exact rfl);(case aB=>exact bl_);(case aF=>exact (fun _ _=>trivial));(case aO=>exact (xd_ HO_6.out));(case aS=>exact (acz bl_));(case aL=>have:=LMc12.out;omega);intro v714 w13 ho hb hg hat;rw [<-Ny713.out] at ho;have n_:=Zb (Za (hb)) (Za (ho));clear HB HO_6;obtain ⟨HB,HO715⟩:=n_;clear ho hb hg hat))
  repeat (go_quiet (first|((with_reducible refine anz (b:= .append) (xs:= #[.tmp 37, .tmp 39]) rfl ?_);at_builtin;refine Kd.bjz (Kd.int .i64) (w0:=w) w.heap.size rfl (.tmp 37) (.tmp 39) 57 3 (.int .i64 0) 8 rfl Tryz.underlying57 info3 rfl (by decide) (by omega) u6 x6_1 (wrap64 (rd l1 x8_1)) [.int .i64 (wrap64 (rd l1 x8_1))] (fun _=>True) (fun _=>False) rfl rfl ?aP (fun _ hk=>hk.elim) ?aF ?aO ?aB ?aS ?aL ?_;(case aP=>exact rfl);(case aB=>exact bl_);(case aF=>exact (fun _ _=>trivial));(case aO=>exact (xd_ HO_6.out));(case aS=>exact (acz bl_));(case aL=>have:=LMc12.out;omega);intro v714 w13 ho hb hg hat;rw [<-Ny713.out] at ho;have n_:=Zb (Za (hb)) (Za (ho));clear HB HO_6;obtain ⟨HB,HO715⟩:=n_;clear ho hb hg hat));try go_wp2_with (first|((with_reducible refine anz (b:= .append) (xs:= #[.tmp 37, .tmp 39]) rfl ?_);at_builtin;refine Kd.bjz (Kd.int .i64) (w0:=w) w.heap.size rfl (.tmp 37) (.tmp 39) 57 3 (.int .i64 0) 8 rfl Tryz.underlying57 info3 rfl (by decide) (by omega) u6 x6_1 (wrap64 (rd l1 x8_1)) [.int .i64 (wrap64 (rd l1 x8_1))] (fun _=>True) (fun _=>False) rfl rfl ?aP (fun _ hk=>hk.elim) ?aF ?aO ?aB ?aS ?aL ?_;(case aP=>exact rfl);(case aB=>exact bl_);(case aF=>exact (fun _ _=>trivial));(case aO=>exact (xd_ HO_6.out));(case aS=>exact (acz bl_));(case aL=>have:=LMc12.out;omega);intro v714 w13 ho hb hg hat;rw [<-Ny713.out] at ho;have n_:=Zb (Za (hb)) (Za (ho));clear HB HO_6;obtain ⟨HB,HO715⟩:=n_;clear ho hb hg hat)))
  go_roundg k1
  case measure=>have:=HK1.out;omega
  case rel=>exact ⟨(y713),(wrap64 (x8_1+(wrap64 (Int.tdiv a0 8)))),sd_,H',⟨by have:=HK1.out;omega⟩,⟨xd_ HO715.out⟩,⟨bl_⟩⟩
 rw [Ya c6] at H;have c6b0:((wrap64 (Int.tdiv a0 8))==2)=true:=Ye c6;have c6b1:((wrap64 (Int.tdiv a0 8)) !=2)=false:=Yc c6;clear c6;obtain ⟨ji7,hji7⟩: ∃j_:Int,(wrap64 (x8_1+1))=j_:=⟨_,rfl⟩
 replace H:(if 0<=(ji7) then (if (ji7)<(l1.length:Int) then (if x6_1.length<17592186044416 then (aXz.l0 k1 l1 (x6_1++ [wrap64 ((wrap64 (rd l1 x8_1))+(wrap64 (256*(wrap64 (rd l1 (ji7))))))]) (wrap64 (Int.tdiv a0 8)) (wrap64 (x8_1+(wrap64 (Int.tdiv a0 8))))) else (none)) else (none)) else (none))=some (r1,r2):=by first|(rw [hji7] at H;exact H)|(simp only [hji7] at H|-;exact H)
 have hji7w:(IntKind.i64.wrap (x8_1+1))=ji7:=(i64_w _).trans hji7;by_cases c8:0<=(ji7)
 rotate_left
 ·rw [Yb c8] at H;exact Yf H (by simp)
 rw [Ya c8] at H;have c8b0:=Zd c8;clear c8;by_cases c9:(ji7)<(l1.length:Int)
 rotate_left
 ·rw [Yb c9] at H;exact Yf H (by simp)
 rw [Ya c9] at H;have c9b0:=Zd c9;clear c9;by_cases c10:x6_1.length<17592186044416
 rotate_left
 ·rw [Yb c10] at H;exact Yf H (by simp)
 rw [Ya c10] at H;have LMc10:=Za c10;clear c10;obtain ⟨y710,hy710⟩: ∃y_:List Int,y_=(x6_1++ [wrap64 ((wrap64 (rd l1 x8_1))+(wrap64 (256*(wrap64 (rd l1 (ji7))))))]):=⟨_,rfl⟩
 first|rw [Zl, <-hy710] at H|rw [<-hy710] at H
 (try dsimp only at H)
 have Ny710:=Za hy710;clear hy710;have H':=Za H;clear H;have p708:0<=(x8_1:Int):=Zc as_;have q708:x8_1<(l1.length:Int):=Zc as_;obtain ⟨ad708,e708,hx708_0⟩:=Kd.bqz HR1.out x8_1 p708 q708;cases e708
 replace hx708_0:=(HB.out.cell (Zj w _ hx708_0)).trans hx708_0;replace p708:=Zz p708;replace q708:=Zz q708;have p709:0<=((ji7):Int):=Zc as_;have q709:(ji7)<(l1.length:Int):=Zc as_;obtain ⟨ad709,e709,hx709_0⟩:=Kd.bqz HR1.out (ji7) p709 q709;obtain rfl:ad708=ad709:=(by injection e709);replace hx709_0:=(HB.out.cell (Zj w _ hx709_0)).trans hx709_0;replace p709:=Zz p709;replace q709:=Zz q709
 go_wp2_with (first|((with_reducible refine anz (b:= .append) (xs:= #[.tmp 37, .tmp 39]) rfl ?_);at_builtin;refine Kd.bjz (Kd.int .i64) (w0:=w) w.heap.size rfl (.tmp 37) (.tmp 39) 57 3 (.int .i64 0) 8 rfl Tryz.underlying57 info3 rfl (by decide) (by omega) u6 x6_1 (wrap64 ((wrap64 (rd l1 x8_1))+(wrap64 (256*(wrap64 (rd l1 (ji7))))))) [.int .i64 (wrap64 ((wrap64 (rd l1 x8_1))+(wrap64 (256*(wrap64 (rd l1 (ji7)))))))] (fun _=>True) (fun _=>False) rfl rfl ?aP (fun _ hk=>hk.elim) ?aF ?aO ?aB ?aS ?aL ?_;(case aP=>exact rfl);(case aB=>exact bl_);(case aF=>exact (fun _ _=>trivial));(case aO=>exact (xd_ HO_6.out));(case aS=>exact (acz bl_));(case aL=>have:=LMc10.out;omega);intro v711 w11 ho hb hg hat;rw [<-Ny710.out] at ho;have n_:=Zb (Za (hb)) (Za (ho));clear HB HO_6;obtain ⟨HB,HO712⟩:=n_;clear ho hb hg hat))
 repeat (go_quiet (first|((with_reducible refine anz (b:= .append) (xs:= #[.tmp 37, .tmp 39]) rfl ?_);at_builtin;refine Kd.bjz (Kd.int .i64) (w0:=w) w.heap.size rfl (.tmp 37) (.tmp 39) 57 3 (.int .i64 0) 8 rfl Tryz.underlying57 info3 rfl (by decide) (by omega) u6 x6_1 (wrap64 ((wrap64 (rd l1 x8_1))+(wrap64 (256*(wrap64 (rd l1 (ji7))))))) [.int .i64 (wrap64 ((wrap64 (rd l1 x8_1))+(wrap64 (256*(wrap64 (rd l1 (ji7)))))))] (fun _=>True) (fun _=>False) rfl rfl ?aP (fun _ hk=>hk.elim) ?aF ?aO ?aB ?aS ?aL ?_;(case aP=>exact rfl);(case aB=>exact bl_);(case aF=>exact (fun _ _=>trivial));(case aO=>exact (xd_ HO_6.out));(case aS=>exact (acz bl_));(case aL=>have:=LMc10.out;omega);intro v711 w11 ho hb hg hat;rw [<-Ny710.out] at ho;have n_:=Zb (Za (hb)) (Za (ho));clear HB HO_6;obtain ⟨HB,HO712⟩:=n_;clear ho hb hg hat));try go_wp2_with (first|((with_reducible refine anz (b:= .append) (xs:= #[.tmp 37, .tmp 39]) rfl ?_);at_builtin;refine Kd.bjz (Kd.int .i64) (w0:=w) w.heap.size rfl (.tmp 37) (.tmp 39) 57 3 (.int .i64 0) 8 rfl Tryz.underlying57 info3 rfl (by decide) (by omega) u6 x6_1 (wrap64 ((wrap64 (rd l1 x8_1))+(wrap64 (256*(wrap64 (rd l1 (ji7))))))) [.int .i64 (wrap64 ((wrap64 (rd l1 x8_1))+(wrap64 (256*(wrap64 (rd l1 (ji7)))))))] (fun _=>True) (fun _=>False) rfl rfl ?aP (fun _ hk=>hk.elim) ?aF ?aO ?aB ?aS ?aL ?_;(case aP=>exact rfl);(case aB=>exact bl_);(case aF=>exact (fun _ _=>trivial));(case aO=>exact (xd_ HO_6.out));(case aS=>exact (acz bl_));(case aL=>have:=LMc10.out;omega);intro v711 w11 ho hb hg hat;rw [<-Ny710.out] at ho;have n_:=Zb (Za (hb)) (Za (ho));clear HB HO_6;obtain ⟨HB,HO712⟩:=n_;clear ho hb hg hat)))
 go_roundg k1
 case measure=>have:=HK1.out;omega
 case rel=>exact ⟨(y710),(wrap64 (x8_1+(wrap64 (Int.tdiv a0 8)))),sd_,H',⟨by have:=HK1.out;omega⟩,⟨xd_ HO712.out⟩,⟨bl_⟩⟩
def aYz.l0:Nat->Int->List Int->List Int->Int->Option (List Int×Bool)
 |0,_,_,_,_=>none
 |k+1,x0,x1,x6,x7=>if x7<(x1.length:Int) then (if 0<=x7 then ((afz.f k x0 (rd x1 x7)).bind fun t717=>(if t717=true then (if x6.length<140737488355328 then ((some (x6++ [(Int.tmod (rd x1 x7) 256) % 256] :List Int)).bind fun y719=>(if x0=16 then (if y719.length<140737488355328 then (aYz.l0 k x0 x1 (y719++ [(wrap64 (Int.tdiv (rd x1 x7) 256)) % 256]) (wrap64 (x7+1))) else (none)) else (aYz.l0 k x0 x1 y719 (wrap64 (x7+1))))) else (none)) else (some (([] :List Int),false)))) else (none)) else (some (x6,true))
def aYz.f (k:Nat) (a0:Int) (l1:List Int):Option (List Int×Bool):=aYz.l0 k a0 l1 ([] :List Int) 0
theorem aYz.calls (k : Nat) (a0 : Int) (A1 : Option Addr) (c1 : Nat) (l1 : List Int) (r1 : List Int) (r2 : Bool) (w : World) (hr1 : Kd.C (Kd.int .i64) w A1 l1.length l1) (hc1 : l1.length <= c1) (h : aYz.f k a0 l1 = some (r1, r2)) :
  Calls Tryz.prog 108 #[.int .i64 a0, .slice A1 l1.length c1] w fun e w'=> ∃v0_:Value,e= .returned (.tuple #[v0_, .bool r2])/\Kd.R (Kd.int .u8) 5 w' w.heap.size (fun _=>True) v0_ r1/\Below w.heap.size w w':=by
 have HR1:=Za hr1;have HC1:=Za hc1;clear hr1 hc1;have HB:=Za (Zw w.heap.size w);have H:=h;clear h;unfold aYz.f at H;have H':=Za H;clear H;go_enter Tryz.func108,Tryz.ntmps108;go_wp2
 go_loopg [6,7] k (fun kq v6 v7 w'=> ∃(x6_1:List Int) (x7_1:Int),v7= .int .i64 x7_1/\Aside0 (aYz.l0 kq a0 l1 x6_1 x7_1=some (r1,r2))/\Aside0 (kq<=k)/\Aside0 (Kd.R (Kd.int .u8) 5 w' w.heap.size (fun _=>True) v6 x6_1)/\Aside0 (Below w.heap.size w w'))
 case atStart=>exact ⟨(([] :List Int)),(0),sd_,H',⟨Zv _⟩,⟨nl_⟩,⟨bl_⟩⟩
 clear H'
 try clear c1
 try clear p2
 obtain ⟨x6_1,x7_1,rfl,HA,HK1,HO_6,HB⟩:=hrel;rcases gk with _|k1
 ·exact Yf HA.out (by simp [aYz.l0])
 have H:=HA.out;clear HA;simp only [aYz.l0] at H;by_cases c3:x7_1<(l1.length:Int)
 rotate_left
 ·rw [Yb c3] at H;have c3b0:=Ze c3;clear c3;simp only [Zx,Zy] at H;obtain ⟨rfl,rfl⟩:=H;go_wp2;go_ret2;exact ⟨_,er_,xd_ HO_6.out,bl_⟩
 rw [Ya c3] at H;have c3b0:=Zd c3;clear c3;by_cases c4:0<=x7_1
 rotate_left
 ·rw [Yb c4] at H;exact Yf H (by simp)
 rw [Ya c4] at H;have c4b0:=Zd c4;clear c4;obtain ⟨t717,A5,H⟩:=ob_ H
 (try dsimp only at H)
 by_cases c6:t717=true
 rotate_left
 ·replace c6:=Zr c6;subst c6;rw [Yb (show¬(false=true) by decide)] at H;simp only [Zx,Zy] at H;obtain ⟨rfl,rfl⟩:=H;have p716:0<=(x7_1:Int):=Zc as_;have q716:x7_1<(l1.length:Int):=Zc as_;obtain ⟨ad716,e716,hx716_0⟩:=Kd.bqz HR1.out x7_1 p716 q716;cases e716
  replace hx716_0:=(HB.out.cell (Zj w _ hx716_0)).trans hx716_0;replace p716:=Zz p716;replace q716:=Zz q716
  go_wp2_with (first|((with_reducible refine abz (f:=106) rfl ?_);refine gl_ (some 19) Tryz.func106 #[.int .i64 a0, .int .i64 (rd l1 x7_1)] ?_;(with_reducible refine (afz.calls k1 a0 (rd l1 x7_1) false _ A5.out).mono ?_);rintro e w' ⟨rfl,⟨nd,rfl⟩⟩;refine ⟨_,rfl,?_⟩))
  go_ret2;exact ⟨_,er_,nl_,bl_⟩
 subst c6;rw [Ya rfl] at H;by_cases c7:x6_1.length<140737488355328
 rotate_left
 ·rw [Yb c7] at H;exact Yf H (by simp)
 rw [Ya c7] at H;have LMc7:=Za c7;clear c7;obtain ⟨y719,hy719⟩: ∃y_:List Int,y_=(x6_1++ [(Int.tmod (rd l1 x7_1) 256) % 256]):=⟨_,rfl⟩
 first|rw [Zl, <-hy719] at H|rw [<-hy719] at H
 (try dsimp only at H)
 have Ny719:=Za hy719;clear hy719;by_cases c8:a0=16
 rotate_left
 ·rw [Yb c8] at H;have c8b0:(a0==16)=false:=Zq c8;have c8b1:(a0 !=16)=true:=Yd c8;have H':=Za H;clear H;have p716:0<=(x7_1:Int):=Zc as_;have q716:x7_1<(l1.length:Int):=Zc as_;obtain ⟨ad716,e716,hx716_0⟩:=Kd.bqz HR1.out x7_1 p716 q716;cases e716
  replace hx716_0:=(HB.out.cell (Zj w _ hx716_0)).trans hx716_0;replace p716:=Zz p716;replace q716:=Zz q716
  go_wp2_with (first|((with_reducible refine abz (f:=106) rfl ?_);refine gl_ (some 19) Tryz.func106 #[.int .i64 a0, .int .i64 (rd l1 x7_1)] ?_;(with_reducible refine (afz.calls k1 a0 (rd l1 x7_1) true _ A5.out).mono ?_);rintro e w' ⟨rfl,⟨nd,rfl⟩⟩;refine ⟨_,rfl,?_⟩;have p718:0<=(x7_1:Int):=Zc as_;have q718:x7_1<(l1.length:Int):=Zc as_;obtain ⟨ad718,e718,hx718_0⟩:=Kd.bqz HR1.out x7_1 p718 q718;obtain rfl:ad716=ad718:=(by injection e718);replace hx718_0:=(HB.out.cell (Zj w _ hx718_0)).trans hx718_0;replace p718:=Zz p718;replace q718:=Zz q718)|((with_reducible refine anz (b:= .append) (xs:= #[.tmp 21, .tmp 28]) rfl ?_);at_builtin;refine Kd.bjz (Kd.int .u8) (w0:=w) w.heap.size rfl (.tmp 21) (.tmp 28) 34 5 (.int .u8 0) 1 rfl Tryz.underlying34 info5 rfl (by decide) (by omega) u6 x6_1 ((Int.tmod (rd l1 x7_1) 256) % 256) [.int .u8 ((Int.tmod (rd l1 x7_1) 256) % 256)] (fun _=>True) (fun _=>False) rfl rfl ?aP (fun _ hk=>hk.elim) ?aF ?aO ?aB ?aS ?aL ?_;(case aP=>exact rfl);(case aB=>exact bl_);(case aF=>exact (fun _ _=>trivial));(case aO=>exact (xd_ HO_6.out));(case aS=>exact (acz bl_));(case aL=>have:=LMc7.out;omega);intro v720 w12 ho hb hg hat;rw [<-Ny719.out] at ho;have n_:=Zb (Za (hb)) (Za (ho));clear HB HO_6;obtain ⟨HB,HO721⟩:=n_;clear ho hb hg hat))
  go_roundg k1
  case measure=>have:=HK1.out;omega
  case rel=>exact ⟨(y719),(wrap64 (x7_1+1)),sd_,H',⟨by have:=HK1.out;omega⟩,⟨xd_ HO721.out⟩,⟨bl_⟩⟩
 rw [Ya c8] at H;have c8b0:(a0==16)=true:=Ye c8;have c8b1:(a0 !=16)=false:=Yc c8;clear c8;by_cases c9:y719.length<140737488355328
 rotate_left
 ·rw [Yb c9] at H;exact Yf H (by simp)
 rw [Ya c9] at H;have LMc9:=Za c9;clear c9;obtain ⟨y723,hy723⟩: ∃y_:List Int,y_=(y719++ [(wrap64 (Int.tdiv (rd l1 x7_1) 256)) % 256]):=⟨_,rfl⟩
 first|rw [Zl, <-hy723] at H|rw [<-hy723] at H
 (try dsimp only at H)
 have Ny723:=Za hy723;clear hy723;have H':=Za H;clear H;have p716:0<=(x7_1:Int):=Zc as_;have q716:x7_1<(l1.length:Int):=Zc as_;obtain ⟨ad716,e716,hx716_0⟩:=Kd.bqz HR1.out x7_1 p716 q716;cases e716
 replace hx716_0:=(HB.out.cell (Zj w _ hx716_0)).trans hx716_0;replace p716:=Zz p716;replace q716:=Zz q716
 go_wp2_with (first|((with_reducible refine abz (f:=106) rfl ?_);refine gl_ (some 19) Tryz.func106 #[.int .i64 a0, .int .i64 (rd l1 x7_1)] ?_;(with_reducible refine (afz.calls k1 a0 (rd l1 x7_1) true _ A5.out).mono ?_);rintro e w' ⟨rfl,⟨nd,rfl⟩⟩;refine ⟨_,rfl,?_⟩;have p718:0<=(x7_1:Int):=Zc as_;have q718:x7_1<(l1.length:Int):=Zc as_;obtain ⟨ad718,e718,hx718_0⟩:=Kd.bqz HR1.out x7_1 p718 q718;obtain rfl:ad716=ad718:=(by injection e718);replace hx718_0:=(HB.out.cell (Zj w _ hx718_0)).trans hx718_0;replace p718:=Zz p718;replace q718:=Zz q718)|((with_reducible refine anz (b:= .append) (xs:= #[.tmp 21, .tmp 28]) rfl ?_);at_builtin;refine Kd.bjz (Kd.int .u8) (w0:=w) w.heap.size rfl (.tmp 21) (.tmp 28) 34 5 (.int .u8 0) 1 rfl Tryz.underlying34 info5 rfl (by decide) (by omega) u6 x6_1 ((Int.tmod (rd l1 x7_1) 256) % 256) [.int .u8 ((Int.tmod (rd l1 x7_1) 256) % 256)] (fun _=>True) (fun _=>False) rfl rfl ?aP (fun _ hk=>hk.elim) ?aF ?aO ?aB ?aS ?aL ?_;(case aP=>exact rfl);(case aB=>exact bl_);(case aF=>exact (fun _ _=>trivial));(case aO=>exact (xd_ HO_6.out));(case aS=>exact (acz bl_));(case aL=>have:=LMc7.out;omega);intro v720 w10 ho hb hg hat;rw [<-Ny719.out] at ho;have n_:=Zb (Za (hb)) (Za (ho));clear HB HO_6;obtain ⟨HB,HO721⟩:=n_;clear ho hb hg hat;have p722:0<=(x7_1:Int):=Zc as_;have q722:x7_1<(l1.length:Int):=Zc as_;obtain ⟨ad722,e722,hx722_0⟩:=Kd.bqz HR1.out x7_1 p722 q722;obtain rfl:ad716=ad722:=(by injection e722);replace hx722_0:=(HB.out.cell (Zj w _ hx722_0)).trans hx722_0;replace p722:=Zz p722;replace q722:=Zz q722)|((with_reducible refine anz (b:= .append) (xs:= #[.tmp 32, .tmp 39]) rfl ?_);at_builtin;refine Kd.bjz (Kd.int .u8) (w0:=w) w.heap.size rfl (.tmp 32) (.tmp 39) 34 5 (.int .u8 0) 1 rfl Tryz.underlying34 info5 rfl (by decide) (by omega) v720 y719 ((wrap64 (Int.tdiv (rd l1 x7_1) 256)) % 256) [.int .u8 ((wrap64 (Int.tdiv (rd l1 x7_1) 256)) % 256)] (fun _=>True) (fun _=>False) rfl rfl ?aP (fun _ hk=>hk.elim) ?aF ?aO ?aB ?aS ?aL ?_;(case aP=>exact rfl);(case aB=>exact bl_);(case aF=>exact (fun _ _=>trivial));(case aO=>exact (xd_ HO721.out));(case aS=>exact (acz bl_));(case aL=>have:=LMc9.out;omega);intro v724 w11 ho hb hg hat;rw [<-Ny723.out] at ho;have n_:=Zb (Za (hb)) (Za (ho));clear HB HO721;obtain ⟨HB,HO725⟩:=n_;clear ho hb hg hat))
 go_roundg k1
 case measure=>have:=HK1.out;omega
 case rel=>exact ⟨(y723),(wrap64 (x7_1+1)),sd_,H',⟨by have:=HK1.out;omega⟩,⟨xd_ HO725.out⟩,⟨bl_⟩⟩
mutual
def a0z.j0:Nat->Int->Int->Int->List Int->Bool->Option (List Int×Bool)
 |0,_,_,_,_,_=>none
 |k+1,x0,x1,x2,x10,x27=>if x27=true then (some (([] :List Int),false)) else (a0z.l0 k x0 x1 x2 x10 ([] :List Int) 0)
def a0z.l0:Nat->Int->Int->Int->List Int->List Int->Int->Option (List Int×Bool)
 |0,_,_,_,_,_,_=>none
 |k+1,x0,x1,x2,x10,x12,x13=>if x13<(x10.length:Int) then (if 0<=x13 then ((aBz.f k x0 x1 x2 (rd x10 x13)).bind fun t732=>(if x12.length<17592186044416 then (a0z.l0 k x0 x1 x2 x10 (x12++ [t732]) (wrap64 (x13+1))) else (none))) else (none)) else ((aYz.f k x0 x12).bind fun bt736=>(some (bt736.1,bt736.2)))
end
def a0z.f (k:Nat) (a0:Int) (a1:Int) (a2:Int) (l3:List Int):Option (List Int×Bool):=(aXz.f k a0 l3).bind fun bt726=>(if bt726.2=true then ((afz.f k a0 a2).bind fun t730=>(a0z.j0 k a0 a1 a2 bt726.1 (!t730))) else (a0z.j0 k a0 a1 a2 bt726.1 true))
theorem a0z.calls (k : Nat) (a0 : Int) (a1 : Int) (a2 : Int) (A3 : Option Addr) (c3 : Nat) (l3 : List Int) (r1 : List Int) (r2 : Bool) (w : World) (hr3 : Kd.C (Kd.int .u8) w A3 l3.length l3) (hc3 : l3.length <= c3) (h : a0z.f k a0 a1 a2 l3 = some (r1, r2)) :
  Calls Tryz.prog 71 #[.int .i64 a0, .int .u32 a1, .int .i64 a2, .slice A3 l3.length c3] w fun e w'=> ∃v0_:Value,e= .returned (.tuple #[v0_, .bool r2])/\Kd.R (Kd.int .u8) 5 w' w.heap.size (fun _=>True) v0_ r1/\Below w.heap.size w w':=by
 have HR3:=Za hr3;have HC3:=Za hc3;clear hr3 hc3;have HB:=Za (Zw w.heap.size w);have H:=h;clear h;unfold a0z.f at H;obtain ⟨⟨t726,t727⟩,A5,H⟩:=ob_ H
 (try dsimp only at H)
 have HC6:=Za H;clear H;go_enter Tryz.func71,Tryz.ntmps71
 go_upto_region 2 with (first|((with_reducible refine abz (f:=105) rfl ?_);refine gl_ (some 17) Tryz.func105 #[.int .i64 a0, .slice A3 l3.length c3] ?_;(with_reducible refine (aXz.calls k a0 _ _ l3 t726 t727 _ (xd_ HR3.out) (HC3.out) A5.out).mono ?_);rintro e w7 ⟨v728,rfl,ho0,hb⟩;refine ⟨_,rfl,?_⟩;have n_:=Zb (Za (Kd.bGz ho0 (acz bl_))) (hs_ HB hb);clear HB;obtain ⟨HO729,HB⟩:=n_;clear hb ho0))
 (try simp only [Act.put,Zg,Zh,Zi])
 go_cut [27] (fun v27 wc=> ∃(kq:Nat) (x27_5:Bool),v27= .bool x27_5/\Aside0 (a0z.j0 kq a0 a1 a2 t726 x27_5=some (r1,r2))/\Aside0 (kq<=k)/\Aside0 (Kd.R (Kd.int .i64) 3 wc w.heap.size (fun _=>True) v728 t726)/\Aside0 (Below w.heap.size w wc))
 case first=>
  have H:=HC6.out;clear HC6;by_cases c8:t727=true
  ·subst c8;rw [Ya rfl] at H;obtain ⟨t730,A9,H⟩:=ob_ H
   (try dsimp only at H)
   have H':=Za H;clear H
   go_wp2_with (first|(go_at_call 106;(with_reducible refine (afz.calls k a0 a2 t730 _ A9.out).mono ?_);rintro e w' ⟨rfl,⟨nd,rfl⟩⟩))
   go_meet
   case rel=>exact ⟨_,(!t730),sd_,H',⟨by first|omega|exact Zv _⟩,⟨xd_ HO729.out⟩,⟨bl_⟩⟩
  ·replace c8:=Zr c8;subst c8;rw [Yb (show¬(false=true) by decide)] at H;have H':=Za H;clear H;go_wp2
   go_meet
   case rel=>exact ⟨_,(true),sd_,H',⟨by first|omega|exact Zv _⟩,⟨xd_ HO729.out⟩,⟨bl_⟩⟩
 case rest=>
  clear HC6
  try clear c1
  try clear p2
  try clear c3
  try clear c7
  try clear c8
  obtain ⟨kq,x27_5,rfl,HA,HJ5,HO_10,HB⟩:=hcut;rcases kq with _|kj5
  ·exact Yf HA.out (by simp [a0z.j0])
  have H:=HA.out;clear HA;simp only [a0z.j0] at H;by_cases c10:x27_5=true
  ·subst c10;rw [Ya rfl] at H;simp only [Zx,Zy] at H;obtain ⟨rfl,rfl⟩:=H;go_wp2;go_ret2;exact ⟨_,er_,nl_,bl_⟩
  ·replace c10:=Zr c10;subst c10;rw [Yb (show¬(false=true) by decide)] at H;have H':=Za H;clear H;go_wp2
   go_loopg [12,13] kj5 (fun kq v12 v13 w'=> ∃(x12_2:List Int) (x13_2:Int),v13= .int .i64 x13_2/\Aside0 (a0z.l0 kq a0 a1 a2 t726 x12_2 x13_2=some (r1,r2))/\Aside0 (kq<=kj5)/\Aside0 (Kd.R (Kd.int .i64) 3 w' w.heap.size (fun k_=>some k_≠(v12:Value).ownBlock) v728 t726)/\Aside0 (Kd.R (Kd.int .i64) 3 w' w.heap.size (fun k_=>some k_≠(v728:Value).ownBlock) v12 x12_2)/\Aside0 (Below w.heap.size w w'))
   case atStart=>exact ⟨(([] :List Int)),(0),sd_,H',⟨Zv _⟩,⟨rm_ HO_10⟩,⟨nl_⟩,⟨bl_⟩⟩
   clear H'
   try clear c1
   try clear p2
   try clear c3
   try clear c7
   try clear c8
   try clear c10
   try clear p2
   obtain ⟨x12_2,x13_2,rfl,HA,HK2,HO_10,HO_12,HB⟩:=hrel;rcases gk with _|k2
   ·exact Yf HA.out (by simp [a0z.l0])
   have H:=HA.out;clear HA;simp only [a0z.l0] at H;by_cases c11:x13_2<(t726.length:Int)
   rotate_left
   ·rw [Yb c11] at H;have c11b0:=Ze c11;clear c11;obtain ⟨⟨t736,t737⟩,A17,H⟩:=ob_ H
    (try dsimp only at H)
    simp only [Zx,Zy] at H;obtain ⟨rfl,rfl⟩:=H;obtain ⟨Ao18,co18,eo18⟩:=Kd.a7z HO_10.out;subst eo18;obtain ⟨Ao19,co19,eo19⟩:=Kd.a7z HO_12.out;subst eo19
    go_wp2_with (first|((with_reducible refine abz (f:=108) rfl ?_);refine gl_ (some 47) Tryz.func108 #[.int .i64 a0, .slice Ao19 x12_2.length co19] ?_;(with_reducible refine (aYz.calls k2 a0 _ _ x12_2 t736 t737 _ (xd_ (Kd.aSz HO_12.out).2.2) ((Kd.aSz HO_12.out).2.1) A17.out).mono ?_);rintro e w20 ⟨v738,rfl,ho0,hb⟩;refine ⟨_,rfl,?_⟩;have n_:=Zb (Za (Kd.cRz (xd_ HO_10.out) hb)) (Zb (Za (Kd.cRz (xd_ HO_12.out) hb)) (Zb (Za (Kd.bGz ho0 (acz bl_))) (hs_ HB hb)));clear HO_10 HO_12 HB;obtain ⟨HO_10,HO_12,HO739,HB⟩:=n_;clear hb ho0))
    go_ret2;exact ⟨_,er_,xd_ HO739.out,bl_⟩
   rw [Ya c11] at H;have c11b0:=Zd c11;clear c11;by_cases c12:0<=x13_2
   rotate_left
   ·rw [Yb c12] at H;exact Yf H (by simp)
   rw [Ya c12] at H;have c12b0:=Zd c12;clear c12;obtain ⟨t732,A13,H⟩:=ob_ H
   (try dsimp only at H)
   by_cases c14:x12_2.length<17592186044416
   rotate_left
   ·rw [Yb c14] at H;exact Yf H (by simp)
   rw [Ya c14] at H;have LMc14:=Za c14;clear c14;obtain ⟨y733,hy733⟩: ∃y_:List Int,y_=(x12_2++ [t732]):=⟨_,rfl⟩
   first|rw [Zl, <-hy733] at H|rw [<-hy733] at H
   (try dsimp only at H)
   have Ny733:=Za hy733;clear hy733;have H':=Za H;clear H;obtain ⟨Ao15,co15,eo15⟩:=Kd.a7z HO_10.out;subst eo15;have p731:0<=(x13_2:Int):=Zc as_;have q731:x13_2<(t726.length:Int):=Zc as_;obtain ⟨ad731,e731,hx731_0⟩:=Kd.bqz (Kd.aSz HO_10.out).2.2 x13_2 p731 q731;cases e731
   replace p731:=Zz p731;replace q731:=Zz q731
   go_wp2_with (first|((with_reducible refine abz (f:=107) rfl ?_);refine gl_ (some 42) Tryz.func107 #[.int .i64 a0, .int .u32 a1, .int .i64 a2, .int .i64 (rd t726 x13_2)] ?_;(with_reducible refine (aBz.calls k2 a0 a1 a2 (rd t726 x13_2) t732 _ A13.out).mono ?_);rintro e w' ⟨rfl,⟨nd,rfl⟩⟩;refine ⟨_,rfl,?_⟩)|((with_reducible refine anz (b:= .append) (xs:= #[.tmp 34, .tmp 43]) rfl ?_);at_builtin;refine Kd.bjz (Kd.int .i64) (w0:=w) w.heap.size rfl (.tmp 34) (.tmp 43) 57 3 (.int .i64 0) 8 rfl Tryz.underlying57 info3 rfl (by decide) (by omega) u12 x12_2 t732 [.int .i64 t732] (fun k_=>some k_≠(.slice (some ad731) t726.length co15:Value).ownBlock) (fun _=>False) rfl rfl ?aP (fun _ hk=>hk.elim) ?aF ?aO ?aB ?aS ?aL ?_;(case aP=>exact rfl);(case aB=>exact bl_);(case aF=>exact (fun k_ hk=>Kd.fresh' (Kd.R_lt (xd_ HO_10.out)) k_ hk));(case aO=>exact (xd_ HO_12.out));(case aS=>exact (acz bl_));(case aL=>have:=LMc14.out;omega);intro v734 w16 ho hb hg hat;rw [<-Ny733.out] at ho;have n_:=Zb (Za (Kd.dLz (ok:=(fun _=>True)) (rm_ HO_10) hg hat)) (Zb (Za (hb)) (Za (ho)));clear HO_10 HB HO_12;obtain ⟨HO_10,HB,HO735⟩:=n_;clear ho hb hg hat))
   go_roundg k2
   case measure=>have:=HJ5.out;have:=HK2.out;omega
   case rel=>exact ⟨(y733),(wrap64 (x13_2+1)),sd_,H',⟨by have:=HJ5.out;have:=HK2.out;omega⟩,⟨rm_ HO_10⟩,⟨xd_ HO735.out⟩,⟨bl_⟩⟩
end Go.Proofs.Xc
end
