-- Joined texts of this work (wip/tools/bundle.py).
import Derived.Test.YtpdakdcmahlghaaGreatBReconUpdates8
set_option maxHeartbeats 8000000
set_option maxRecDepth 100000
set_option linter.unusedVariables false
set_option linter.unusedSimpArgs false
section
namespace Go.Proofs.Xc
open Go.RowKit Go.Proofs.Pw Go.Proofs.Pl Go.Proofs.Pm
attribute [local go_sem] a7z a8z bjz bkz aZz a0z a9z baz
mutual
def acz.l0:Nat->Int->Int->Int->Int->List (List Int)->List (List Int)->Int->Option ((List (List Int))×Bool)
 |0,_,_,_,_,_,_,_=>none
 |k+1,x0,x1,x2,x3,x14,x16,x17=>if x17<x3 then (acz.l1 k x0 x1 x2 x3 x14 x16 x17 ([] :List Int) 0) else (some (x16,true))
def acz.l1:Nat->Int->Int->Int->Int->List (List Int)->List (List Int)->Int->List Int->Int->Option ((List (List Int))×Bool)
 |0,_,_,_,_,_,_,_,_,_=>none
 |k+1,x0,x1,x2,x3,x14,x16,x17,x18,x19=>if x19<x2 then (if 0<=x17 then (if x17<(x14.length:Int) then (if 0<=x19 then (if x19<((rd_L4 x14 x17).length:Int) then (if 0<(x14.length:Int) then (if x19<((rd_L4 x14 0).length:Int) then ((bez.f k x0 x1 (rd (rd_L4 x14 x17) x19) (rd (rd_L4 x14 0) x19)).bind fun t282=>(if x18.length<17592186044416 then (acz.l1 k x0 x1 x2 x3 x14 x16 x17 (x18++ [t282]) (wrap64 (x19+1))) else (none))) else (none)) else (none)) else (none)) else (none)) else (none)) else (none)) else (acz.l2 k x0 x1 x2 x3 x14 x16 x17 x18 ([] :List Int) 0)
def acz.l2:Nat->Int->Int->Int->Int->List (List Int)->List (List Int)->Int->List Int->List Int->Int->Option ((List (List Int))×Bool)
 |0,_,_,_,_,_,_,_,_,_,_=>none
 |k+1,x0,x1,x2,x3,x14,x16,x17,x18,x20,x21=>if x21<x2 then (if 0<=x21 then (if x21<(x18.length:Int) then (if 0<(x18.length:Int) then ((bez.f k x0 x1 (rd x18 x21) (rd x18 0)).bind fun t288=>(if x20.length<17592186044416 then (acz.l2 k x0 x1 x2 x3 x14 x16 x17 x18 (x20++ [t288]) (wrap64 (x21+1))) else (none))) else (none)) else (none)) else (none)) else (if x16.length<5864062014805 then (acz.l0 k x0 x1 x2 x3 x14 (x16++ [x20]) (wrap64 (x17+1))) else (none))
end
def acz.f (k:Nat) (a0:Int) (a1:Int) (a2:Int) (a3:Int):Option ((List (List Int))×Bool):=(arz.f k a0 a1 a2 a3).bind fun bt256=>(if bt256.2=true then (if 0<=a2 then (if a2<=(bt256.1.length:Int) then ((ahz.f k a0 a1 (bt256.1.take (a2:Int).toNat)).bind fun bt265=>((akz.f k a0 a1 (bt256.1.drop (a2:Int).toNat) bt265.1).bind fun bt274=>(acz.l0 k a0 a1 a2 a3 bt274.1 ([] :List (List Int)) 0))) else (none)) else (none)) else (some (([] :List (List Int)),false)))
theorem acz.aVz: ∀k,(∀y0 y1 y2 y3 y4 y5 y6,LeO (acz.l0 k y0 y1 y2 y3 y4 y5 y6) (acz.l0 (k+1) y0 y1 y2 y3 y4 y5 y6))/\(∀y0 y1 y2 y3 y4 y5 y6 y7 y8,LeO (acz.l1 k y0 y1 y2 y3 y4 y5 y6 y7 y8) (acz.l1 (k+1) y0 y1 y2 y3 y4 y5 y6 y7 y8))/\(∀y0 y1 y2 y3 y4 y5 y6 y7 y8 y9,LeO (acz.l2 k y0 y1 y2 y3 y4 y5 y6 y7 y8 y9) (acz.l2 (k+1) y0 y1 y2 y3 y4 y5 y6 y7 y8 y9))
 |0=>⟨fun _ _ _ _ _ _ _ r h=>by simp [acz.l0] at h,fun _ _ _ _ _ _ _ _ _ r h=>by simp [acz.l1] at h,fun _ _ _ _ _ _ _ _ _ _ r h=>by simp [acz.l2] at h⟩
 |k+1=>by
  obtain ⟨ih0,ih1,ih2⟩:=acz.aVz k;refine ⟨?_,?_,?_⟩
  ·intro y0 y1 y2 y3 y4 y5 y6;unfold acz.l0
   repeat' with_reducible first|apply ih0|apply ih1|apply ih2|apply akz.mono|apply ahz.mono|apply arz.mono|apply bez.mono|apply Yg|apply Yh|apply Yi|refine Yj ?_ fun _=>?_
  ·intro y0 y1 y2 y3 y4 y5 y6 y7 y8;unfold acz.l1
   repeat' with_reducible first|apply ih0|apply ih1|apply ih2|apply akz.mono|apply ahz.mono|apply arz.mono|apply bez.mono|apply Yg|apply Yh|apply Yi|refine Yj ?_ fun _=>?_
  ·intro y0 y1 y2 y3 y4 y5 y6 y7 y8 y9;unfold acz.l2
   repeat' with_reducible first|apply ih0|apply ih1|apply ih2|apply akz.mono|apply ahz.mono|apply arz.mono|apply bez.mono|apply Yg|apply Yh|apply Yi|refine Yj ?_ fun _=>?_
theorem acz.mono: ∀a0 a1 a2 a3 k,LeO (acz.f k a0 a1 a2 a3) (acz.f (k+1) a0 a1 a2 a3):=by
 intro a0 a1 a2 a3 k;obtain ⟨ih0,ih1,ih2⟩:=acz.aVz k;unfold acz.f
 repeat' with_reducible first|apply ih0|apply ih1|apply ih2|apply akz.mono|apply ahz.mono|apply arz.mono|apply bez.mono|apply Yg|apply Yh|apply Yi|refine Yj ?_ fun _=>?_
def acz.T14:Bool×List (List Nat×List Nat):=(true, [([], []),([], []),([], []),([], []),([], []),([3,4], [3,4]),([5], [5]),([], []),([6,7], [6,7]),([8], [8]),([], []),([10], [10]),([11], [11]),([], []),([12,13], [12,13]),([14], [14]),([1,2,9,15], [1,2,9,15]),([16], [16]),([0,17,16], [0,17]),([18,18,0,1,2,3,4,5,6,7,8,9,10,11,12,13,14,15,16,17,18], [0,18])])
def acz.B14:List Nat:= [0,0,0,0,0,24,56,0,248,504,0,1024,3072,0,15360,31744,65534,131070,262143,524287]
theorem acz.tab14:rtab .any (opsOf Tryz.f83 14)=acz.T14:=by kernel_rfl
theorem acz.bits14:waitsOk acz.T14.2 acz.B14=true:=by kernel_rfl
def acz.T19:Bool×List (List Nat×List Nat):=(true, [([], []),([], []),([], []),([], []),([], []),([3,4], [3,4]),([5], [5]),([], []),([7], [7]),([8], [8]),([1,2,6,9], [1,2,6,9]),([10], [10]),([0,11,10], [0,11]),([12,12,0,1,2,3,4,5,6,7,8,9,10,11,12], [0,12])])
def acz.B19:List Nat:= [0,0,0,0,0,24,56,0,128,384,1022,2046,4095,8191]
theorem acz.tab19:rtab .any (opsOf Tryz.f83 19)=acz.T19:=by kernel_rfl
theorem acz.bits19:waitsOk acz.T19.2 acz.B19=true:=by kernel_rfl
theorem acz.calls (k : Nat) (a0 : Int) (a1 : Int) (a2 : Int) (a3 : Int) (r1 : List (List Int)) (r2 : Bool) (w : World) (h : acz.f k a0 a1 a2 a3 = some (r1, r2)) :
  Calls Tryz.prog 83 #[.int .i64 a0, .int .u32 a1, .int .i64 a2, .int .i64 a3] w fun e w'=> ∃v0_:Value,e= .returned (.tuple #[v0_, .bool r2])/\Kd.N (Kd.slice 3 (Kd.int .i64)) 57 w' w.heap.size (fun k_=>(w.heap.size<=k_)) v0_ r1/\Below w.heap.size w w':=by
 have HB:=Za (Zw w.heap.size w);have H:=h;clear h;unfold acz.f at H;obtain ⟨⟨t256,t257⟩,A5,H⟩:=ob_ H
 (try dsimp only at H)
 by_cases c6:t257=true
 rotate_left
 ·replace c6:=Zr c6;subst c6;rw [Yb (show¬(false=true) by decide)] at H;simp only [Zx,Zy] at H;obtain ⟨rfl,rfl⟩:=H;go_enter Tryz.func83,Tryz.ntmps83
  go_wp2_with (first|((with_reducible refine abz (f:=126) rfl ?_);refine gl_ (some 27) Tryz.func126 #[.int .i64 a0, .int .u32 a1, .int .i64 a2, .int .i64 a3] ?_;(with_reducible refine (arz.calls k a0 a1 a2 a3 t256 false _ A5.out).mono ?_);rintro e w45 ⟨v258,rfl,ho0,hb⟩;refine ⟨_,rfl,?_⟩;have n_:=Zb (Za (Kd.cbz (Kd.cnz (ok':=fun k_=>(w.heap.size<=k_)) (Kd.S_N (Kd.bFz ho0)) (fun k_ hk_=>(Zt (aez bl_) hk_.2.1))) (aez bl_))) (hs_ HB hb);clear HB;obtain ⟨HO259,HB⟩:=n_;clear hb ho0))
  go_ret2;exact ⟨_,er_,nl_,bl_⟩
 subst c6;rw [Ya rfl] at H;by_cases c7:0<=a2
 rotate_left
 ·rw [Yb c7] at H;exact Yf H (by simp)
 rw [Ya c7] at H;have c7b0:=Zz c7;have c7b1:=Zd c7;clear c7;by_cases c8:a2<=(t256.length:Int)
 rotate_left
 ·rw [Yb c8] at H;exact Yf H (by simp)
 rw [Ya c8] at H;have c8b0:=Zz c8;have c8b1:=Zd c8;clear c8;obtain ⟨y260,hy260⟩: ∃y_:List (List Int),y_=(t256.take (a2:Int).toNat):=⟨_,rfl⟩
 first|rw [Zl, <-hy260] at H|rw [<-hy260] at H
 (try dsimp only at H)
 have Ny260:=Za hy260;clear hy260;obtain ⟨⟨t265,t268⟩,A9,H⟩:=ob_ H
 (try dsimp only at H)
 have c10b0:=Zz (Zc as_:0<=a2);have c11b0:=Zz (Zc as_:a2<=(t256.length:Int));obtain ⟨y269,hy269⟩: ∃y_:List (List Int),y_=(t256.drop (a2:Int).toNat):=⟨_,rfl⟩
 first|rw [Zl, <-hy269] at H|rw [<-hy269] at H
 (try dsimp only at H)
 have Ny269:=Za hy269;clear hy269;obtain ⟨⟨t274,t275⟩,A12,H⟩:=ob_ H
 (try dsimp only at H)
 have H':=Za H;clear H;go_enter Tryz.func83,Tryz.ntmps83
 go_wp2_with (first|((with_reducible refine abz (f:=126) rfl ?_);refine gl_ (some 27) Tryz.func126 #[.int .i64 a0, .int .u32 a1, .int .i64 a2, .int .i64 a3] ?_;(with_reducible refine (arz.calls k a0 a1 a2 a3 t256 true _ A5.out).mono ?_);rintro e w13 ⟨v258,rfl,ho0,hb⟩;refine ⟨_,rfl,?_⟩;have n_:=Zb (Za (Kd.cbz (Kd.cnz (ok':=fun k_=>(w.heap.size<=k_)) (Kd.S_N (Kd.bFz ho0)) (fun k_ hk_=>(Zt (aez bl_) hk_.2.1))) (aez bl_))) (hs_ HB hb);clear HB;obtain ⟨HO259,HB⟩:=n_;clear hb ho0;obtain ⟨Ao15,co15,eo15⟩:=Kd.cRz HO259.out;subst eo15;have q14:(a2:Int)<=((t256.length:Int):Int):=Zc as_;obtain ⟨i014,hi014,_,hsz14,_⟩:=info_parts info57;have hroom14:t256.length<=co15:=(Kd.bnz HO259.out).2.1;have hC14:Kd.F (Kd.slice 3 (Kd.int .i64)) _ _ Ao15 t256.length t256:=(Kd.V_at (base:=w.heap.size) (Kd.N_V HO259.out)).2.2;have hcut14:=cut_to (P:=Tryz.prog) 68 57 .i64 Tryz.underlying68 hi014 Ao15 t256.length co15 a2 (Zc as_) q14 hroom14;have hr14:=Kd.F_take (m:=(a2:Int).toNat) hC14 (by omega);have hy14:y260.length=(a2:Int).toNat:=(by rw [Ny260.out,List.length_take];omega);rw [<-Ny260.out] at hr14;rw [<-hy14] at hcut14;have HO264:=Za (show Kd.V (Kd.slice 3 (Kd.int .i64)) 57 _ w.heap.size _ (.slice Ao15 y260.length co15) y260 from Kd.V_mk (by omega) hr14);have HC264:=Za (show y260.length<=co15 from by omega);clear hr14 hC14 hroom14 hi014 hsz14;have KY14:=Za hy14;clear hy14;replace q14:=Zz q14)|((with_reducible refine abz (f:=64) rfl ?_);refine gl_ (some 38) Tryz.func64 #[.int .i64 a0, .int .u32 a1, .slice Ao15 y260.length co15] ?_;(with_reducible refine (ahz.calls k a0 a1 _ _ y260 t265 t268 _ (xd_ (Kd.bCz HO264.out).2.2) ((Kd.bCz HO264.out).2.1) A9.out).mono ?_);rintro e w16 ⟨v266,rfl,ho0,hb⟩;refine ⟨_,rfl,?_⟩;have n_:=Zb (Za (Kd.cpz (xd_ HO259.out) (Kd.czz ho0) hb)) (Zb (Za (Kd.bPz (xd_ HO264.out) (Kd.czz ho0) hb)) (Zb (Za (Kd.cbz (Kd.cnz (ok':=fun k_=>(w.heap.size<=k_)/\some k_≠(.slice Ao15 t256.length co15:Value).ownBlock) ho0 (fun k_ hk_=>⟨(Zt (aez bl_) hk_),(Kd.fresh' (Kd.N_lt (xd_ HO259.out)) k_ hk_)⟩)) (aez bl_))) (hs_ HB hb)));clear HO259 HO264 HB;obtain ⟨HO259,HO264,HO267,HB⟩:=n_;clear hb ho0;have q17:(a2:Int)<=((t256.length:Int):Int):=Zc as_;obtain ⟨i017,hi017,_,hsz17,_⟩:=info_parts info57;have hroom17:t256.length<=co15:=(Kd.bnz HO259.out).2.1;have hC17:Kd.F (Kd.slice 3 (Kd.int .i64)) _ _ Ao15 t256.length t256:=(Kd.V_at (base:=w.heap.size) (Kd.N_V HO259.out)).2.2;have q017:(0:Int)<=(a2:Int):=Zc as_;have hcut17:=cut_from (P:=Tryz.prog) 68 57 .i64 Tryz.underlying68 hi017 1 hsz17 Ao15 t256.length co15 a2 q017 q17;have hr17:=Kd.F_cut (m:=(a2:Int).toNat) (c:=co15) hC17 (by omega) hroom17;obtain ⟨A17,hA17⟩: ∃Aq_,Aq_=(if co15=(a2:Int).toNat then Ao15 else (Ao15:Option Addr).map (·.add ((a2:Int).toNat*1))):=⟨_,rfl⟩;obtain ⟨c17,hc17⟩: ∃cq_,cq_=co15 - (a2:Int).toNat:=⟨_,rfl⟩;have hy17:y269.length=t256.length - (a2:Int).toNat:=(by rw [Ny269.out,List.length_drop] <;>omega);rw [show (t256).drop (a2:Int).toNat=y269 from Ny269.out.symm] at hr17;replace hr17:Kd.F (Kd.slice 3 (Kd.int .i64)) _ _ A17 y269.length y269:=(by rw [hA17];exact hr17);rw [<-hy17, <-hA17, <-hc17] at hcut17;have HO273:=Za (show Kd.V (Kd.slice 3 (Kd.int .i64)) 57 _ w.heap.size _ (.slice A17 y269.length c17) y269 from Kd.V_mk (by rw [hy17,hc17];exact Nat.sub_le_sub_right hroom17 _) hr17);have HC273:=Za (show y269.length<=c17 from by rw [hy17,hc17];exact Nat.sub_le_sub_right hroom17 _);clear hr17 hC17 hroom17 hi017 hsz17 hc17;have KY17:=Za hy17;have KA17:=Za hA17;clear hy17 hA17;replace q17:=Zz q17;obtain ⟨Ao18,co18,eo18⟩:=Kd.cRz HO267.out;subst eo18)|((with_reducible refine abz (f:=127) rfl ?_);refine gl_ (some 48) Tryz.func127 #[.int .i64 a0, .int .u32 a1, .slice A17 y269.length c17, .slice Ao18 t265.length co18] ?_;(with_reducible refine (akz.calls k a0 a1 _ _ y269 _ _ t265 t274 t275 _ (xd_ (Kd.bCz HO273.out).2.2) ((Kd.bCz HO273.out).2.1) (xd_ (Kd.bnz HO267.out).2.2) ((Kd.bnz HO267.out).2.1) A12.out).mono ?_);rintro e w19 ⟨v276,rfl,ho0,hb⟩;refine ⟨_,rfl,?_⟩;have n_:=Zb (Za (Kd.cpz (xd_ HO259.out) (Kd.ecz ho0) hb)) (Zb (Za (Kd.bPz (xd_ HO264.out) (Kd.ecz ho0) hb)) (Zb (Za (Kd.cpz (xd_ HO267.out) (Kd.ecz ho0) hb)) (Zb (Za (Kd.bPz (xd_ HO273.out) (Kd.ecz ho0) hb)) (Zb (Za (Kd.cbz (Kd.cnz (ok':=fun k_=>(w.heap.size<=k_)/\some k_≠(.slice Ao15 t256.length co15:Value).ownBlock/\some k_≠(.slice Ao18 t265.length co18:Value).ownBlock) (Kd.S_N (Kd.bFz ho0)) (fun k_ hk_=>⟨(Zt (aez bl_) hk_.2.1),(Kd.fresh' (Kd.N_lt (xd_ HO259.out)) k_ hk_.2.1),(Kd.fresh' (Kd.N_lt (xd_ HO267.out)) k_ hk_.2.1)⟩)) (aez bl_))) (hs_ HB hb)))));clear HO259 HO264 HO267 HO273 HB;obtain ⟨HO259,HO264,HO267,HO273,HO277,HB⟩:=n_;clear hb ho0))
 go_loopg [16,17] k (fun kq v16 v17 w'=> ∃(x16_1:List (List Int)) (x17_1:Int),v17= .int .i64 x17_1/\Aside0 (acz.l0 kq a0 a1 a2 a3 t274 x16_1 x17_1=some (r1,r2))/\Aside0 (kq<=k)/\Aside0 (Kd.N (Kd.slice 3 (Kd.int .i64)) 57 w' w.heap.size (fun k_=>(w.heap.size<=k_)/\some k_≠(v16:Value).ownBlock) v276 t274)/\Aside0 (Kd.N (Kd.slice 3 (Kd.int .i64)) 57 w' w.heap.size (fun k_=>(w.heap.size<=k_)/\some k_≠(v276:Value).ownBlock) v16 x16_1)/\Aside0 (Below w.heap.size w w'))
 case atStart=>exact ⟨(([] :List (List Int))),(0),sd_,H',⟨Zv _⟩,⟨nm_ HO277⟩,⟨nl_⟩,⟨bl_⟩⟩
 clear H';clear c7b0 c7b1 c8b0 c8b1 c10b0 c11b0 q14 q17 q017;obtain ⟨x16_1,x17_1,rfl,HA,HK1,HO_14,HO_16,HB⟩:=hrel;rcases gk with _|k1
 ·exact Yf HA.out (by simp [acz.l0])
 have H:=HA.out;clear HA;simp only [acz.l0] at H;by_cases c20:x17_1<a3
 rotate_left
 ·rw [Yb c20] at H;have c20b0:=Ze c20;clear c20;simp only [Zx,Zy] at H;obtain ⟨rfl,rfl⟩:=H;go_wp2;go_ret2;exact ⟨_,er_,nm_ HO_16,bl_⟩
 rw [Ya c20] at H;have c20b0:=Zd c20;clear c20;have H':=Za H;clear H;go_wp2
 go_loopg [18,19] k1 (fun kq v18 v19 w'=> ∃(x18_2:List Int) (x19_2:Int),v19= .int .i64 x19_2/\Aside0 (acz.l1 kq a0 a1 a2 a3 t274 x16_1 x17_1 x18_2 x19_2=some (r1,r2))/\Aside0 (kq<=k1)/\Aside0 (Kd.N (Kd.slice 3 (Kd.int .i64)) 57 w' w.heap.size (fun k_=>(w.heap.size<=k_)/\some k_≠(u16:Value).ownBlock/\some k_≠(v18:Value).ownBlock) v276 t274)/\Aside0 (Kd.N (Kd.slice 3 (Kd.int .i64)) 57 w' w.heap.size (fun k_=>(w.heap.size<=k_)/\some k_≠(v276:Value).ownBlock/\some k_≠(v18:Value).ownBlock) u16 x16_1)/\Aside0 (Kd.R (Kd.int .i64) 3 w' w.heap.size (fun k_=>(w.heap.size<=k_)) v18 x18_2)/\Aside0 (Below w.heap.size w w'))
 case atStart=>exact ⟨(([] :List Int)),(0),sd_,H',⟨Zv _⟩,⟨nm_ HO_14⟩,⟨nm_ HO_16⟩,⟨nl_⟩,⟨bl_⟩⟩
 clear H';clear c20b0;obtain ⟨x18_2,x19_2,rfl,HA,HK2,HO_14,HO_16,HO_18,HB⟩:=hrel;rcases gk with _|k2
 ·exact Yf HA.out (by simp [acz.l1])
 have H:=HA.out;clear HA;simp only [acz.l1] at H;by_cases c21:x19_2<a2
 rotate_left
 ·rw [Yb c21] at H;have c21b0:=Ze c21;clear c21;have H':=Za H;clear H;go_wp2
  go_loopg [20,21] k2 (fun kq v20 v21 w'=> ∃(x20_3:List Int) (x21_3:Int),v21= .int .i64 x21_3/\Aside0 (acz.l2 kq a0 a1 a2 a3 t274 x16_1 x17_1 x18_2 x20_3 x21_3=some (r1,r2))/\Aside0 (kq<=k2)/\Aside0 (Kd.N (Kd.slice 3 (Kd.int .i64)) 57 w' w.heap.size (fun k_=>(w.heap.size<=k_)/\some k_≠(u16:Value).ownBlock/\some k_≠(u18:Value).ownBlock/\some k_≠(v20:Value).ownBlock) v276 t274)/\Aside0 (Kd.N (Kd.slice 3 (Kd.int .i64)) 57 w' w.heap.size (fun k_=>(w.heap.size<=k_)/\some k_≠(v276:Value).ownBlock/\some k_≠(u18:Value).ownBlock/\some k_≠(v20:Value).ownBlock) u16 x16_1)/\Aside0 (Kd.R (Kd.int .i64) 3 w' w.heap.size (fun k_=>(w.heap.size<=k_)/\some k_≠(v20:Value).ownBlock) u18 x18_2)/\Aside0 (Kd.R (Kd.int .i64) 3 w' w.heap.size (fun k_=>(w.heap.size<=k_)/\some k_≠(u18:Value).ownBlock) v20 x20_3)/\Aside0 (Below w.heap.size w w'))
  case atStart=>exact ⟨(([] :List Int)),(0),sd_,H',⟨Zv _⟩,⟨nm_ HO_14⟩,⟨nm_ HO_16⟩,⟨rm_ HO_18⟩,⟨nl_⟩,⟨bl_⟩⟩
  clear H';clear c21b0;obtain ⟨x20_3,x21_3,rfl,HA,HK3,HO_14,HO_16,HO_18,HO_20,HB⟩:=hrel;rcases gk with _|k3
  ·exact Yf HA.out (by simp [acz.l2])
  have H:=HA.out;clear HA;simp only [acz.l2] at H;by_cases c33:x21_3<a2
  rotate_left
  ·rw [Yb c33] at H;have c33b0:=Ze c33;clear c33;by_cases c42:x16_1.length<5864062014805
   rotate_left
   ·rw [Yb c42] at H;exact Yf H (by simp)
   rw [Ya c42] at H;have LMc42:=Za c42;clear c42;obtain ⟨y292,hy292⟩: ∃y_:List (List Int),y_=(x16_1++ [x20_3]):=⟨_,rfl⟩
   first|rw [Zl, <-hy292] at H|rw [<-hy292] at H
   (try dsimp only at H)
   have Ny292:=Za hy292;clear hy292;have H':=Za H;clear H;obtain ⟨Ao44,co44,eo44⟩:=Kd.aRz HO_20.out;subst eo44
   go_wp2_with (first|((with_reducible refine anz (b:= .append) (xs:= #[.tmp 98, .tmp 100]) rfl ?_);at_builtin;refine Kd.N_append (Kd.slice 3 (Kd.int .i64)) (w0:=w) w.heap.size rfl (.tmp 98) (.tmp 100) 68 57 (.slice none 0 0) 24 rfl Tryz.underlying68 info57 rfl (by decide) (by omega) u16 x16_1 x20_3 [.slice Ao44 x20_3.length co44] (fun k_=>(w.heap.size<=k_)/\some k_≠(v276:Value).ownBlock/\some k_≠(u18:Value).ownBlock) (fun k_=>((fun k_=>(w.heap.size<=k_)/\some k_≠(v276:Value).ownBlock/\some k_≠(u18:Value).ownBlock)) k_/\some k_≠(u16:Value).ownBlock) rfl rfl ?aP (fun _ hk=>hk) ?aF ?aO ?aB ?aS ?aL ?_;(case aP=>exact (Kd.cWz (Kd.aNz (Kd.aJz (ok':=(fun k_=>((fun k_=>(w.heap.size<=k_)/\some k_≠(v276:Value).ownBlock/\some k_≠(u18:Value).ownBlock)) k_/\some k_≠(u16:Value).ownBlock)) (Kd.brz (Kd.brz (HO_20.out) (Kd.cKz HO_14.out) (by decide)) (Kd.cKz HO_16.out) (by decide)) (fun k_ hk=>⟨⟨hk.1.1.1,⟨hk.1.2,hk.1.1.2⟩⟩,hk.2⟩))).2.1 (Kd.R_F (Kd.aJz (ok':=(fun k_=>((fun k_=>(w.heap.size<=k_)/\some k_≠(v276:Value).ownBlock/\some k_≠(u18:Value).ownBlock)) k_/\some k_≠(u16:Value).ownBlock)) (Kd.brz (Kd.brz (HO_20.out) (Kd.cKz HO_14.out) (by decide)) (Kd.cKz HO_16.out) (by decide)) (fun k_ hk=>⟨⟨hk.1.1.1,⟨hk.1.2,hk.1.1.2⟩⟩,hk.2⟩)))));(case aB=>exact bl_);(case aF=>exact (fun k_ hk=>⟨(Zt (aez bl_) hk),Kd.fresh' (Kd.N_lt (xd_ HO_14.out)) k_ hk,Kd.fresh' (Kd.R_lt (xd_ HO_18.out)) k_ hk⟩));(case aO=>exact (nm_ HO_16));(case aS=>exact (aez bl_));(case aL=>have:=LMc42.out;omega);intro v293 w43 ho hb hg hat;rw [<-Ny292.out] at ho;have n_:=Zb (Za (Kd.c2z (ok:=(fun k_=>(w.heap.size<=k_)/\some k_≠(u18:Value).ownBlock/\some k_≠(.slice Ao44 x20_3.length co44:Value).ownBlock)) (nm_ HO_14) hg hat)) (Zb (Za (Kd.R_over' (xd_ HO_18.out) (Kd.cKz (xd_ HO_16.out)) (by decide) hg)) (Zb (Za (hb)) (Za (ho))));clear HO_14 HO_18 HB HO_16 HO_20;obtain ⟨HO_14,HO_18,HB,HO294⟩:=n_;clear ho hb hg hat))
   go_roundg k3
   case measure=>have:=HK1.out;have:=HK2.out;have:=HK3.out;omega
   case rel=>exact ⟨(y292),(wrap64 (x17_1+1)),sd_,H',⟨by have:=HK1.out;have:=HK2.out;have:=HK3.out;omega⟩,⟨nm_ HO_14⟩,⟨nm_ HO294⟩,⟨bl_⟩⟩
  rw [Ya c33] at H;have c33b0:=Zd c33;clear c33;by_cases c34:0<=x21_3
  rotate_left
  ·rw [Yb c34] at H;exact Yf H (by simp)
  rw [Ya c34] at H;have c34b0:=Zd c34;clear c34;by_cases c35:x21_3<(x18_2.length:Int)
  rotate_left
  ·rw [Yb c35] at H;exact Yf H (by simp)
  rw [Ya c35] at H;have c35b0:=Zd c35;clear c35;by_cases c36:0<(x18_2.length:Int)
  rotate_left
  ·rw [Yb c36] at H;exact Yf H (by simp)
  rw [Ya c36] at H;have c36b0:=Zd c36;have c36b1:decide (0<x18_2.length)=true:=Zd (by omega);clear c36;obtain ⟨t288,A37,H⟩:=ob_ H
  (try dsimp only at H)
  by_cases c38:x20_3.length<17592186044416
  rotate_left
  ·rw [Yb c38] at H;exact Yf H (by simp)
  rw [Ya c38] at H;have LMc38:=Za c38;clear c38;obtain ⟨y289,hy289⟩: ∃y_:List Int,y_=(x20_3++ [t288]):=⟨_,rfl⟩
  first|rw [Zl, <-hy289] at H|rw [<-hy289] at H
  (try dsimp only at H)
  have Ny289:=Za hy289;clear hy289;have H':=Za H;clear H
  try go_wp2
  have n_:=Zb (Za (Kd.edz HO_14.out)) (Zb (Za (Kd.edz HO_16.out)) (Zb (Za (Kd.c1z HO_18.out)) (Zb (Za (Kd.c1z HO_20.out)) (Za (crz HB.out)))));clear HO_14 HO_16 HO_18 HO_20 HB;obtain ⟨HO_14,HO_16,HO_18,HO_20,HB⟩:=n_;obtain ⟨Ao40,co40,eo40⟩:=Kd.aRz HO_18.out
  (first|subst eo40|(injection eo40 with f1_ f2_ f3_;have f4_:=f1_.symm;have f5_:=f3_.symm;clear f1_ f2_ f3_;subst f4_;subst f5_))
  have p286:0<=(x21_3:Int):=Zc as_;have q286:x21_3<(x18_2.length:Int):=Zc as_;obtain ⟨ad286,e286,hx286_0⟩:=Kd.bAz (Kd.aNz HO_18.out).2.2 x21_3 p286 q286;cases e286
  replace p286:=Zz p286;replace q286:=Zz q286;have p287:0<=(0:Int):=(by omega);have q287:0<(x18_2.length:Int):=Zc as_;obtain ⟨ad287,e287,hx287_0⟩:=Kd.bAz (Kd.aNz HO_18.out).2.2 0 p287 q287;obtain rfl:ad286=ad287:=(by injection e287);have qi287:(0<x18_2.length)=True:=Zz (by omega)
  (try rw [show ((0:Int)).toNat=0 from rfl] at hx287_0)
  (try rw [Addr.add_zero'] at hx287_0)
  replace p287:=Zz p287;replace q287:=Zz q287;refine clz (n:=14) (S:=fun w'=>w'.cell? (ad286.add (x21_3).toNat)=some (.int .i64 (rd x18_2 x21_3))/\w'.cell? ad286=some (.int .i64 (rd x18_2 0))) (ds:= [11,12]) (bA 14 0) kr_ rfl rfl ⟨hx286_0,hx287_0⟩ (fun hHeld=> ?_);refine eez acz.tab19 acz.bits19 (fun HT_ HW_=> ?_);generalize wr.drew=w39 at HO_14 HO_16 HO_18 HO_20 HB hx286_0 hx287_0 hHeld|-;refine pv_ 0 85 1 HT_ ?_;refine pv_ 1 86 3 HT_ ?_;refine pv_ 2 87 7 HT_ ?_;refine pv_ 3 88 15 HT_ ?_;refine pv_ 4 89 31 HT_ ?_;refine pv_ 5 90 63 HT_ ?_;refine pv_ 7 92 191 HT_ ?_;refine pv_ 8 93 447 HT_ ?_;refine tw_ 6 91 511 HT_ HW_ hHeld ?_;refine tw_ 9 94 1023 HT_ HW_ hHeld ?_;refine one_ (i:=10) (N:=some 95) (bA 14 2047) rfl rfl (dqz HT_.out kr_) (by decide) (fun K hK=> ?_);refine goes_ Tryz.func128 kr_ rfl #[.int .i64 a0, .int .u32 a1, .int .i64 (rd x18_2 x21_3), .int .i64 (rd x18_2 0)] (by rfl) rfl rfl ar_ ?_
  with_reducible refine (bez.calls k3 a0 a1 (rd x18_2 x21_3) (rd x18_2 0) t288 _ A37.out).mono ?_
  rintro e w' ⟨rfl,⟨nd,rfl⟩⟩;refine ⟨_,rfl,?_⟩;refine hK.out _ _ ⟨hHeld.1,hHeld.2⟩ (fun hHeld=> ?_);clear hK K;refine norm_ (a':= ?_) ?_ ?_;rotate_left
  ·show Act.put _ (some 95) _=_;simp only [Act.put,Zg,Zh,Zi,i64_w,i32_w];rfl
  refine last_ (i:=11) (N:=some 96) (bA 14 4095) rfl rfl (dqz HT_.out kr_) (by decide) (fun K hK=> ?_);refine cez (w1:= ?_) (v:= ?_) (by rfl) rfl ?_ ?_;rotate_left 2
  ·go_simp;constructor
   ·rfl
   ·rfl
  refine hK.out _ _ ?_;clear hK K;refine norm_ (a':= ?_) ?_ ?_;rotate_left
  ·show Act.put _ (some 96) _=_;simp only [Act.put,Zg,Zh,Zi,i64_w,i32_w];rfl
  refine last_ (i:=12) (N:=some 97) (bA 14 8191) rfl rfl (dqz HT_.out kr_) (by decide) (fun K hK=> ?_);refine Kd.dCz (Kd.int .i64) (w0:=w) w.heap.size (by rfl) (.tmp 85) (.tmp 96) 57 3 (.int .i64 0) 8 rfl Tryz.underlying57 info3 rfl (by decide) (by omega) u20 x20_3 t288 [.int .i64 t288] (fun k_=>(w.heap.size<=k_)/\some k_≠(.slice (some ad286) x18_2.length co40:Value).ownBlock) (fun _=>False) rfl rfl ?aP (fun _ hk=>hk.elim) ?aF ?aO ?aB ?aS ?aL ?_
  (case aP=>exact rfl)
  (case aB=>exact bl_)
  (case aF=>exact (fun k_ hk=>⟨(Zt (aez bl_) hk),Kd.fresh' (Kd.R_lt (xd_ HO_18.out)) k_ hk⟩))
  (case aO=>exact (xd_ HO_20.out))
  (case aS=>exact (aez bl_))
  (case aL=>have:=LMc38.out;omega)
  intro v290 w41 ho hb hg hat;rw [<-Ny289.out] at ho;have n_:=Zb (Za (Kd.c2z (ok:=(fun k_=>(w.heap.size<=k_)/\some k_≠(u16:Value).ownBlock/\some k_≠(.slice (some ad286) x18_2.length co40:Value).ownBlock)) (nm_ HO_14) hg hat)) (Zb (Za (Kd.c2z (ok:=(fun k_=>(w.heap.size<=k_)/\some k_≠(v276:Value).ownBlock/\some k_≠(.slice (some ad286) x18_2.length co40:Value).ownBlock)) (nm_ HO_16) hg hat)) (Zb (Za (Kd.R_after (ok:=(fun k_=>(w.heap.size<=k_))) (xd_ HO_18.out) hg hat)) (Zb (Za (hb)) (Za (ho)))));clear HO_14 HO_16 HO_18 HB HO_20;obtain ⟨HO_14,HO_16,HO_18,HB,HO291⟩:=n_;clear ho hb hg hat;refine hK.out _ _ ?_;clear hK K;refine norm_ (a':= ?_) ?_ ?_;rotate_left
  ·show Act.put _ (some 97) _=_;simp only [Act.put,Zg,Zh,Zi,i64_w,i32_w];rfl
  refine pv_ 13 20 16383 HT_ ?_;refine done_ (done_of HT_.out kr_) ?_
  try go_wp2
  go_roundg k3
  case measure=>have:=HK1.out;have:=HK2.out;have:=HK3.out;omega
  case rel=>exact ⟨(y289),(wrap64 (x21_3+1)),sd_,H',⟨by have:=HK1.out;have:=HK2.out;have:=HK3.out;omega⟩,⟨nm_ HO_14⟩,⟨nm_ HO_16⟩,⟨xd_ HO_18.out⟩,⟨xd_ HO291.out⟩,⟨bl_⟩⟩
 rw [Ya c21] at H;have c21b0:=Zd c21;clear c21;by_cases c22:0<=x17_1
 rotate_left
 ·rw [Yb c22] at H;exact Yf H (by simp)
 rw [Ya c22] at H;have c22b0:=Zd c22;clear c22;by_cases c23:x17_1<(t274.length:Int)
 rotate_left
 ·rw [Yb c23] at H;exact Yf H (by simp)
 rw [Ya c23] at H;have c23b0:=Zd c23;clear c23;by_cases c24:0<=x19_2
 rotate_left
 ·rw [Yb c24] at H;exact Yf H (by simp)
 rw [Ya c24] at H;have c24b0:=Zd c24;clear c24;by_cases c25:x19_2<((rd_L4 t274 x17_1).length:Int)
 rotate_left
 ·rw [Yb c25] at H;exact Yf H (by simp)
 rw [Ya c25] at H;have c25b0:=Zd c25;clear c25;by_cases c26:0<(t274.length:Int)
 rotate_left
 ·rw [Yb c26] at H;exact Yf H (by simp)
 rw [Ya c26] at H;have c26b0:=Zd c26;have c26b1:decide (0<t274.length)=true:=Zd (by omega);clear c26;by_cases c27:x19_2<((rd_L4 t274 0).length:Int)
 rotate_left
 ·rw [Yb c27] at H;exact Yf H (by simp)
 rw [Ya c27] at H;have c27b0:=Zd c27;clear c27;obtain ⟨t282,A28,H⟩:=ob_ H
 (try dsimp only at H)
 by_cases c29:x18_2.length<17592186044416
 rotate_left
 ·rw [Yb c29] at H;exact Yf H (by simp)
 rw [Ya c29] at H;have LMc29:=Za c29;clear c29;obtain ⟨y283,hy283⟩: ∃y_:List Int,y_=(x18_2++ [t282]):=⟨_,rfl⟩
 first|rw [Zl, <-hy283] at H|rw [<-hy283] at H
 (try dsimp only at H)
 have Ny283:=Za hy283;clear hy283;have H':=Za H;clear H
 try go_wp2
 have n_:=Zb (Za (Kd.edz HO_14.out)) (Zb (Za (Kd.edz HO_16.out)) (Zb (Za (Kd.c1z HO_18.out)) (Za (crz HB.out))));clear HO_14 HO_16 HO_18 HB;obtain ⟨HO_14,HO_16,HO_18,HB⟩:=n_;obtain ⟨Ao31,co31,eo31⟩:=Kd.cRz HO_14.out
 (first|subst eo31|(injection eo31 with f1_ f2_ f3_;have f4_:=f1_.symm;have f5_:=f3_.symm;clear f1_ f2_ f3_;subst f4_;subst f5_))
 have p278:0<=(x17_1:Int):=Zc as_;have q278:x17_1<(t274.length:Int):=Zc as_;obtain ⟨ad278,A278_0,c278_0,e278,hx278_0,hl278_0,hi278_0⟩:=at_L4 (Kd.bnz HO_14.out).2.2 x17_1 p278 q278;cases e278
 obtain ⟨ce278,hce278,hMe278,hcc278⟩:=Kd.N_get HO_14.out [] x17_1 p278 (by first|exact q278|exact Zc as_|(have e_:=(Kd.bnz HO_14.out).1;omega));obtain ⟨ua278_0,uc278_0,rfl,ul278_0,ge278_0⟩:=Kd.bUz hMe278;have hv278_0:=hcc278 0 _ rfl;rw [Nat.add_zero,show ((Kd.slice 3 (Kd.int .i64))).sz=1 from rfl,Nat.mul_one] at hv278_0;replace hv278_0:=Zn (hv278_0.symm.trans hx278_0);injection hv278_0 with hva_ hvn_ hvc_
 rw [hva_] at ge278_0;rw [hvc_] at ul278_0;have HL278_0:=Za (show Kd.V (Kd.int .i64) 3 _ w.heap.size _ _ (rd_L4 t274 x17_1) from Kd.V_mk ul278_0 ge278_0);clear hva_ hvn_ hvc_ ge278_0 ul278_0;clear hcc278 hce278;have HR278_0:=Za hi278_0;have HC278_0:=Za hl278_0;clear hi278_0 hl278_0;replace p278:=Zz p278;replace q278:=Zz q278;have p279:0<=(x19_2:Int):=Zc as_;have q279:x19_2<((rd_L4 t274 x17_1).length:Int):=Zc as_;obtain ⟨ad279,e279,hx279_0⟩:=Kd.bAz (by repeat (first|(with_reducible exact HR278_0.out)|(with_reducible refine Kd.b0z ?_ _)|(with_reducible refine Kd.buz ?_ _)|(with_reducible refine Kd.b4z ?_)|exact HR278_0.out)) x19_2 p279 q279;cases e279
 replace p279:=Zz p279;replace q279:=Zz q279;have p280:0<=(0:Int):=(by omega);have q280:0<(t274.length:Int):=Zc as_;obtain ⟨ad280,A280_0,c280_0,e280,hx280_0,hl280_0,hi280_0⟩:=at_L4 (Kd.bnz HO_14.out).2.2 0 p280 q280;obtain rfl:ad278=ad280:=(by injection e280);obtain ⟨ce280,hce280,hMe280,hcc280⟩:=Kd.N_get HO_14.out [] 0 p280 (by first|exact q280|exact Zc as_|(have e_:=(Kd.bnz HO_14.out).1;omega));obtain ⟨ua280_0,uc280_0,rfl,ul280_0,ge280_0⟩:=Kd.bUz hMe280;have hv280_0:=hcc280 0 _ rfl;rw [Nat.add_zero,show ((Kd.slice 3 (Kd.int .i64))).sz=1 from rfl,Nat.mul_one] at hv280_0;replace hv280_0:=Zn (hv280_0.symm.trans hx280_0);injection hv280_0 with hva_ hvn_ hvc_
 rw [hva_] at ge280_0;rw [hvc_] at ul280_0;have HL280_0:=Za (show Kd.V (Kd.int .i64) 3 _ w.heap.size _ _ (rd_L4 t274 0) from Kd.V_mk ul280_0 ge280_0);clear hva_ hvn_ hvc_ ge280_0 ul280_0;clear hcc280 hce280;have qi280:(0<t274.length)=True:=Zz (by omega)
 (try rw [show ((0:Int)).toNat=0 from rfl] at hx280_0)
 (try rw [Addr.add_zero'] at hx280_0)
 have HR280_0:=Za hi280_0;have HC280_0:=Za hl280_0;clear hi280_0 hl280_0;replace p280:=Zz p280;replace q280:=Zz q280;have p281:0<=(x19_2:Int):=Zc as_;have q281:x19_2<((rd_L4 t274 0).length:Int):=Zc as_;obtain ⟨ad281,e281,hx281_0⟩:=Kd.bAz (by repeat (first|(with_reducible exact HR280_0.out)|(with_reducible refine Kd.b0z ?_ _)|(with_reducible refine Kd.buz ?_ _)|(with_reducible refine Kd.b4z ?_)|exact HR280_0.out)) x19_2 p281 q281;cases e281
 replace p281:=Zz p281;replace q281:=Zz q281;refine clz (n:=20) (S:=fun w'=>w'.cell? (ad278.add (x17_1).toNat)=some (.slice (some ad279) (rd_L4 t274 x17_1).length c278_0)/\w'.cell? (ad279.add (x19_2).toNat)=some (.int .i64 (rd (rd_L4 t274 x17_1) x19_2))/\w'.cell? ad278=some (.slice (some ad281) (rd_L4 t274 0).length c280_0)/\w'.cell? (ad281.add (x19_2).toNat)=some (.int .i64 (rd (rd_L4 t274 0) x19_2))) (ds:= [17,18]) (bA 20 0) kr_ rfl rfl ⟨hx278_0,hx279_0,hx280_0,hx281_0⟩ (fun hHeld=> ?_);refine eez acz.tab14 acz.bits14 (fun HT_ HW_=> ?_);generalize wr.drew=w30 at HO_14 HO_16 HO_18 HB HL278_0 HL280_0 HR278_0 HR280_0 hx278_0 hx279_0 hx280_0 hx281_0 hHeld|-;refine pv_ 0 61 1 HT_ ?_;refine pv_ 1 62 3 HT_ ?_;refine pv_ 2 63 7 HT_ ?_;refine pv_ 3 64 15 HT_ ?_;refine pv_ 4 65 31 HT_ ?_;refine pv_ 5 66 63 HT_ ?_;refine pv_ 7 68 191 HT_ ?_;refine pv_ 10 71 1215 HT_ ?_;refine pv_ 11 72 3263 HT_ ?_;refine pv_ 13 74 11455 HT_ ?_
 refine tw_ 6 67 11519 HT_ HW_ hHeld ?_;refine pv_ 8 69 11775 HT_ ?_;refine tw_ 9 70 12287 HT_ HW_ hHeld ?_;refine tw_ 12 73 16383 HT_ HW_ hHeld ?_;refine pv_ 14 75 32767 HT_ ?_;refine tw_ 15 76 65535 HT_ HW_ hHeld ?_;refine one_ (i:=16) (N:=some 77) (bA 20 131071) rfl rfl (dqz HT_.out kr_) (by decide) (fun K hK=> ?_);refine goes_ Tryz.func128 kr_ rfl #[.int .i64 a0, .int .u32 a1, .int .i64 (rd (rd_L4 t274 x17_1) x19_2), .int .i64 (rd (rd_L4 t274 0) x19_2)] (by rfl) rfl rfl ar_ ?_
 with_reducible refine (bez.calls k2 a0 a1 (rd (rd_L4 t274 x17_1) x19_2) (rd (rd_L4 t274 0) x19_2) t282 _ A28.out).mono ?_
 rintro e w' ⟨rfl,⟨nd,rfl⟩⟩;refine ⟨_,rfl,?_⟩;refine hK.out _ _ ⟨hHeld.1,hHeld.2.1,hHeld.2.2.1,hHeld.2.2.2⟩ (fun hHeld=> ?_);clear hK K;refine norm_ (a':= ?_) ?_ ?_;rotate_left
 ·show Act.put _ (some 77) _=_;simp only [Act.put,Zg,Zh,Zi,i64_w,i32_w];rfl
 refine last_ (i:=17) (N:=some 78) (bA 20 262143) rfl rfl (dqz HT_.out kr_) (by decide) (fun K hK=> ?_);refine cez (w1:= ?_) (v:= ?_) (by rfl) rfl ?_ ?_;rotate_left 2
 ·go_simp;constructor
  ·rfl
  ·rfl
 refine hK.out _ _ ?_;clear hK K;refine norm_ (a':= ?_) ?_ ?_;rotate_left
 ·show Act.put _ (some 78) _=_;simp only [Act.put,Zg,Zh,Zi,i64_w,i32_w];rfl
 refine last_ (i:=18) (N:=some 79) (bA 20 524287) rfl rfl (dqz HT_.out kr_) (by decide) (fun K hK=> ?_);refine Kd.dCz (Kd.int .i64) (w0:=w) w.heap.size (by rfl) (.tmp 61) (.tmp 78) 57 3 (.int .i64 0) 8 rfl Tryz.underlying57 info3 rfl (by decide) (by omega) u18 x18_2 t282 [.int .i64 t282] (fun k_=>(w.heap.size<=k_)) (fun _=>False) rfl rfl ?aP (fun _ hk=>hk.elim) ?aF ?aO ?aB ?aS ?aL ?_
 (case aP=>exact rfl)
 (case aB=>exact bl_)
 (case aF=>exact (fun k_ hk=>(Zt (aez bl_) hk)))
 (case aO=>exact (xd_ HO_18.out))
 (case aS=>exact (aez bl_))
 (case aL=>have:=LMc29.out;omega)
 intro v284 w32 ho hb hg hat;rw [<-Ny283.out] at ho;have n_:=Zb (Za (Kd.c2z (ok:=(fun k_=>(w.heap.size<=k_)/\some k_≠(u16:Value).ownBlock)) (nm_ HO_14) hg hat)) (Zb (Za (Kd.c2z (ok:=(fun k_=>(w.heap.size<=k_)/\some k_≠(.slice (some ad278) t274.length co31:Value).ownBlock)) (nm_ HO_16) hg hat)) (Zb (Za (Kd.b9z (ok:=(fun k_=>(w.heap.size<=k_)/\some k_≠(.slice (some ad278) t274.length co31:Value).ownBlock/\some k_≠(u16:Value).ownBlock)) (by (with_reducible repeat (first|apply Kd.ccz|apply Kd.cdz|apply Kd.coz));exact Kd.b1z HL278_0.out (fun _ hk=>⟨⟨hk.1.1,⟨hk.2,hk.1.2.1⟩⟩,hk.1.2.2⟩)) hg hat)) (Zb (Za (Kd.b9z (ok:=(fun k_=>(w.heap.size<=k_)/\some k_≠(.slice (some ad278) t274.length co31:Value).ownBlock/\some k_≠(u16:Value).ownBlock)) (by (with_reducible repeat (first|apply Kd.ccz|apply Kd.cdz|apply Kd.coz));exact Kd.b1z HL280_0.out (fun _ hk=>⟨⟨hk.1.1,⟨hk.2,hk.1.2.1⟩⟩,hk.1.2.2⟩)) hg hat)) (Zb (Za (hb)) (Za (ho))))))
 clear HO_14 HO_16 HL278_0 HL280_0 HB HO_18;obtain ⟨HO_14,HO_16,HL278_0,HL280_0,HB,HO285⟩:=n_;clear ho hb hg hat;refine hK.out _ _ ?_;clear hK K;refine norm_ (a':= ?_) ?_ ?_;rotate_left
 ·show Act.put _ (some 79) _=_;simp only [Act.put,Zg,Zh,Zi,i64_w,i32_w];rfl
 refine pv_ 19 18 1048575 HT_ ?_;refine done_ (done_of HT_.out kr_) ?_
 try go_wp2
 go_roundg k2
 case measure=>have:=HK1.out;have:=HK2.out;omega
 case rel=>exact ⟨(y283),(wrap64 (x19_2+1)),sd_,H',⟨by have:=HK1.out;have:=HK2.out;omega⟩,⟨nm_ HO_14⟩,⟨nm_ HO_16⟩,⟨xd_ HO285.out⟩,⟨bl_⟩⟩
mutual
def ajz.j0:Nat->Int->Int->List Int->List Int->Bool->Option ((List (List Int))×Bool)
 |0,_,_,_,_,_=>none
 |k+1,x0,x1,x2,x3,x36=>if x36=true then (some (([] :List (List Int)),false)) else ((some (([] :List Int):List Int)).bind fun y295=>(if y295.length+x2.length<17592186044416 then ((some (y295++x2:List Int)).bind fun y298=>(if y298.length+x3.length<17592186044416 then (ajz.l0 k x0 x1 x2 x3 (y298++x3) 0) else (none))) else (none)))
def ajz.l0:Nat->Int->Int->List Int->List Int->List Int->Int->Option ((List (List Int))×Bool)
 |0,_,_,_,_,_,_=>none
 |k+1,x0,x1,x2,x3,x10,x11=>if x11<(x10.length:Int) then (if 0<=x11 then ((afz.f k x0 (rd x10 x11)).bind fun t305=>(if t305=true then (ajz.l1 k x0 x1 x2 x3 x10 x11 0) else (some (([] :List (List Int)),false)))) else (none)) else (ajz.l2 k x0 x1 x2 x3 ([] :List (List Int)) 0)
def ajz.l1:Nat->Int->Int->List Int->List Int->List Int->Int->Int->Option ((List (List Int))×Bool)
 |0,_,_,_,_,_,_,_=>none
 |k+1,x0,x1,x2,x3,x10,x11,x12=>if x12<x11 then (if 0<=x11 then (if x11<(x10.length:Int) then (if 0<=x12 then (if x12<(x10.length:Int) then (if (rd x10 x11)=(rd x10 x12) then (some (([] :List (List Int)),false)) else (ajz.l1 k x0 x1 x2 x3 x10 x11 (wrap64 (x12+1)))) else (none)) else (none)) else (none)) else (none)) else (ajz.l0 k x0 x1 x2 x3 x10 (wrap64 (x11+1)))
def ajz.l2:Nat->Int->Int->List Int->List Int->List (List Int)->Int->Option ((List (List Int))×Bool)
 |0,_,_,_,_,_,_=>none
 |k+1,x0,x1,x2,x3,x13,x14=>if x14<(x2.length:Int) then (ajz.l3 k x0 x1 x2 x3 x13 x14 ([] :List Int) 0) else (some (x13,true))
def ajz.l3:Nat->Int->Int->List Int->List Int->List (List Int)->Int->List Int->Int->Option ((List (List Int))×Bool)
 |0,_,_,_,_,_,_,_,_=>none
 |k+1,x0,x1,x2,x3,x13,x14,x15,x16=>if x16<(x3.length:Int) then (if 0<=x14 then (if x14<(x2.length:Int) then (if 0<=x16 then ((aqz.f k x0 x1 (Go.bits .xor .i64 (rd x2 x14) (rd x3 x16))).bind fun bt310=>(if x15.length<17592186044416 then (ajz.l3 k x0 x1 x2 x3 x13 x14 (x15++ [bt310.1]) (wrap64 (x16+1))) else (none))) else (none)) else (none)) else (none)) else (if x13.length<5864062014805 then (ajz.l2 k x0 x1 x2 x3 (x13++ [x15]) (wrap64 (x14+1))) else (none))
end
def ajz.f (k:Nat) (a0:Int) (a1:Int) (l2:List Int) (l3:List Int):Option ((List (List Int))×Bool):=if (l2.length:Int)<1 then (ajz.j0 k a0 a1 l2 l3 true) else (if (l2.length:Int)>20 then (ajz.j0 k a0 a1 l2 l3 true) else (if (l3.length:Int)<1 then (ajz.j0 k a0 a1 l2 l3 true) else (ajz.j0 k a0 a1 l2 l3 (decide ((l3.length:Int)>20)))))
theorem ajz.aVz: ∀k,(∀y0 y1 y2 y3 y4,LeO (ajz.j0 k y0 y1 y2 y3 y4) (ajz.j0 (k+1) y0 y1 y2 y3 y4))/\(∀y0 y1 y2 y3 y4 y5,LeO (ajz.l0 k y0 y1 y2 y3 y4 y5) (ajz.l0 (k+1) y0 y1 y2 y3 y4 y5))/\(∀y0 y1 y2 y3 y4 y5 y6,LeO (ajz.l1 k y0 y1 y2 y3 y4 y5 y6) (ajz.l1 (k+1) y0 y1 y2 y3 y4 y5 y6))/\(∀y0 y1 y2 y3 y4 y5,LeO (ajz.l2 k y0 y1 y2 y3 y4 y5) (ajz.l2 (k+1) y0 y1 y2 y3 y4 y5))/\(∀y0 y1 y2 y3 y4 y5 y6 y7,LeO (ajz.l3 k y0 y1 y2 y3 y4 y5 y6 y7) (ajz.l3 (k+1) y0 y1 y2 y3 y4 y5 y6 y7))
 |0=>⟨fun _ _ _ _ _ r h=>by simp [ajz.j0] at h,fun _ _ _ _ _ _ r h=>by simp [ajz.l0] at h,fun _ _ _ _ _ _ _ r h=>by simp [ajz.l1] at h,fun _ _ _ _ _ _ r h=>by simp [ajz.l2] at h,fun _ _ _ _ _ _ _ _ r h=>by simp [ajz.l3] at h⟩
 |k+1=>by
  obtain ⟨ih0,ih1,ih2,ih3,ih4⟩:=ajz.aVz k;refine ⟨?_,?_,?_,?_,?_⟩
  ·intro y0 y1 y2 y3 y4;unfold ajz.j0
   repeat' with_reducible first|apply ih0|apply ih1|apply ih2|apply ih3|apply ih4|apply afz.mono|apply aqz.mono|apply Yg|apply Yh|apply Yi|refine Yj ?_ fun _=>?_
  ·intro y0 y1 y2 y3 y4 y5;unfold ajz.l0
   repeat' with_reducible first|apply ih0|apply ih1|apply ih2|apply ih3|apply ih4|apply afz.mono|apply aqz.mono|apply Yg|apply Yh|apply Yi|refine Yj ?_ fun _=>?_
  ·intro y0 y1 y2 y3 y4 y5 y6;unfold ajz.l1
   repeat' with_reducible first|apply ih0|apply ih1|apply ih2|apply ih3|apply ih4|apply afz.mono|apply aqz.mono|apply Yg|apply Yh|apply Yi|refine Yj ?_ fun _=>?_
  ·intro y0 y1 y2 y3 y4 y5;unfold ajz.l2
   repeat' with_reducible first|apply ih0|apply ih1|apply ih2|apply ih3|apply ih4|apply afz.mono|apply aqz.mono|apply Yg|apply Yh|apply Yi|refine Yj ?_ fun _=>?_
  ·intro y0 y1 y2 y3 y4 y5 y6 y7;unfold ajz.l3
   repeat' with_reducible first|apply ih0|apply ih1|apply ih2|apply ih3|apply ih4|apply afz.mono|apply aqz.mono|apply Yg|apply Yh|apply Yi|refine Yj ?_ fun _=>?_
theorem ajz.mono: ∀a0 a1 a2 a3 k,LeO (ajz.f k a0 a1 a2 a3) (ajz.f (k+1) a0 a1 a2 a3):=by
 intro a0 a1 a2 a3 k;obtain ⟨ih0,ih1,ih2,ih3,ih4⟩:=ajz.aVz k;unfold ajz.f
 repeat' with_reducible first|apply ih0|apply ih1|apply ih2|apply ih3|apply ih4|apply afz.mono|apply aqz.mono|apply Yg|apply Yh|apply Yi|refine Yj ?_ fun _=>?_
theorem ajz.calls (k : Nat) (a0 : Int) (a1 : Int) (A2 : Option Addr) (c2 : Nat) (l2 : List Int) (A3 : Option Addr) (c3 : Nat) (l3 : List Int) (r1 : List (List Int)) (r2 : Bool) (w : World) (hr2 : Kd.C (Kd.int .i64) w A2 l2.length l2) (hc2 : l2.length <= c2) (hr3 : Kd.C (Kd.int .i64) w A3 l3.length l3) (hc3 : l3.length <= c3) (h : ajz.f k a0 a1 l2 l3 = some (r1, r2)) :
  Calls Tryz.prog 130 #[.int .i64 a0, .int .u32 a1, .slice A2 l2.length c2, .slice A3 l3.length c3] w fun e w'=> ∃v0_:Value,e= .returned (.tuple #[v0_, .bool r2])/\Kd.S (Kd.slice 3 (Kd.int .i64)) 57 w' w.heap.size (fun _=>True) v0_ r1/\Below w.heap.size w w':=by
 have HR2:=Za hr2;have HC2:=Za hc2;clear hr2 hc2;have HR3:=Za hr3;have HC3:=Za hc3;clear hr3 hc3;have HB:=Za (Zw w.heap.size w);have H:=h;clear h;unfold ajz.f at H;have HC5:=Za H;clear H;go_enter Tryz.func130,Tryz.ntmps130
 go_upto_region 1 with (fail)
 repeat (go_quiet (fail);go_upto_region 1 with (fail))
 go_cut [36] (fun v36 wc=> ∃(kq:Nat) (x36_4:Bool),v36= .bool x36_4/\Aside0 (ajz.j0 kq a0 a1 l2 l3 x36_4=some (r1,r2))/\Aside0 (kq<=k)/\Aside0 (Below w.heap.size w wc))
 case first=>
  have H:=HC5.out;clear HC5;by_cases c6:(l2.length:Int)<1
  ·rw [Ya c6] at H;have c6b0:=Zd c6;have c6b1:decide (l2.length<1)=true:=Zd (by omega);clear c6
   (first|rw [c6b0] |(simp only [i64_w,i32_w];rw [c6b0])|skip)
   have H':=Za H;clear H;go_wp2
   repeat (go_quiet (fail);try go_wp2)
   go_meet
   case rel=>exact ⟨_,(true),sd_,H',⟨by first|omega|exact Zv _⟩,⟨bl_⟩⟩
  ·rw [Yb c6] at H;have c6b0:=Ze c6;have c6b1:decide (l2.length<1)=false:=Ze (by omega);clear c6
   (first|rw [c6b0] |(simp only [i64_w,i32_w];rw [c6b0])|skip)
   by_cases c7:(l2.length:Int)>20
   ·rw [Ya c7] at H;have c7b0:decide (20<(l2.length:Int))=true:=Zd c7;have c7b1:decide (20<l2.length)=true:=Zd (by omega);clear c7;have H':=Za H;clear H;go_wp2
    repeat (go_quiet (fail);try go_wp2)
    go_meet
    case rel=>exact ⟨_,(true),sd_,H',⟨by first|omega|exact Zv _⟩,⟨bl_⟩⟩
   ·rw [Yb c7] at H;have c7b0:decide (20<(l2.length:Int))=false:=Ze c7;have c7b1:decide (20<l2.length)=false:=Ze (by omega);clear c7;by_cases c8:(l3.length:Int)<1
    ·rw [Ya c8] at H;have c8b0:=Zd c8;have c8b1:decide (l3.length<1)=true:=Zd (by omega);clear c8;have H':=Za H;clear H;go_wp2
     repeat (go_quiet (fail);try go_wp2)
     go_meet
     case rel=>exact ⟨_,(true),sd_,H',⟨by first|omega|exact Zv _⟩,⟨bl_⟩⟩
    ·rw [Yb c8] at H;have c8b0:=Ze c8;have c8b1:decide (l3.length<1)=false:=Ze (by omega);clear c8;have H':=Za H;clear H;go_wp2
     repeat (go_quiet (fail);try go_wp2)
     go_meet
     case rel=>exact ⟨_,(decide ((l3.length:Int)>20)),sd_,H',⟨by first|omega|exact Zv _⟩,⟨bl_⟩⟩
 case rest=>
  clear HC5;obtain ⟨kq,x36_4,rfl,HA,HJ4,HB⟩:=hcut;rcases kq with _|kj4
  ·exact Yf HA.out (by simp [ajz.j0])
  have H:=HA.out;clear HA;simp only [ajz.j0] at H;by_cases c9:x36_4=true
  ·subst c9;rw [Ya rfl] at H;simp only [Zx,Zy] at H;obtain ⟨rfl,rfl⟩:=H;go_wp2
   repeat (go_quiet (fail);try go_wp2)
   go_ret2;exact ⟨_,er_,nl_,bl_⟩
  ·replace c9:=Zr c9;subst c9;rw [Yb (show¬(false=true) by decide)] at H;obtain ⟨y295,hy295⟩: ∃y_:List Int,y_=(([] :List Int)):=⟨_,rfl⟩
   first|rw [Zl, <-hy295] at H|rw [<-hy295] at H
   (try dsimp only at H)
   have Ny295:=Za hy295;clear hy295;by_cases c10:y295.length+l2.length<17592186044416
   rotate_left
   ·rw [Yb c10] at H;exact Yf H (by simp)
   rw [Ya c10] at H;have LMc10:=Za c10;clear c10;obtain ⟨y298,hy298⟩: ∃y_:List Int,y_=(y295++l2):=⟨_,rfl⟩
   first|rw [Zl, <-hy298] at H|rw [<-hy298] at H
   (try dsimp only at H)
   have Ny298:=Za hy298;clear hy298;by_cases c11:y298.length+l3.length<17592186044416
   rotate_left
   ·rw [Yb c11] at H;exact Yf H (by simp)
   rw [Ya c11] at H;have LMc11:=Za c11;clear c11;obtain ⟨y301,hy301⟩: ∃y_:List Int,y_=(y298++l3):=⟨_,rfl⟩
   first|rw [Zl, <-hy301] at H|rw [<-hy301] at H
   (try dsimp only at H)
   have Ny301:=Za hy301;clear hy301;have H':=Za H;clear H
   go_wp2_with (first|((with_reducible refine blz (N:=37) rfl ?_);(try (refine aYz (by rfl) ?_;dsimp only));refine Kd.R_lit (Kd.int .i64) _ 3 ?hg (N:=37) ?hd (xs:=([] :List Int)) (inner:= []) (ok:=fun _=>True) (okp:=fun _=>True) ?hr ?hp (fun _ hk=>hk) trivial (Zw _ _) (Zv _) (by simp) ?_;(case hd=>rfl);(case hg=>rfl);(case hr=>first|(go_simp;done)|(go_simp;rfl));(case hp=>exact (Reps.none _ _));intro v296 w12 ho13 hb hg_ hnew_;clear hg_ hnew_;(first|rw [<-Ny295.out] at ho13|(simp only [Int.reduceToNat] at ho13;rw [<-Ny295.out] at ho13));have n_:=Zb (Za (Kd.bDz ho13 (aez bl_))) (hs_ HB hb);clear HB;obtain ⟨HO297,HB⟩:=n_;clear hb ho13)|((with_reducible refine anz (b:= .append) (xs:= #[.tmp 37, .tmp 38]) rfl ?_);(try (refine aYz (by rfl) ?_;dsimp only));at_builtin;refine Kd.chz (Kd.int .i64) (w0:=w) w.heap.size rfl (.tmp 37) (.tmp 38) 57 3 (.int .i64 0) 8 rfl Tryz.underlying57 info3 rfl (by decide) (by omega) v296 y295 l2 _ _ _ (fun _=>True) (fun _=>False) rfl rfl ?aO ?aR (fun _ _ h=>h) (fun _ h=>h.elim) ?aF ?aB ?aS ?aL ?_;(case aR=>repeat (first|exact (Kd.azz HR2.out HB.out)|(with_reducible refine Kd.b0z ?_ _)|(with_reducible refine Kd.buz ?_ _)|(with_reducible refine Kd.b4z ?_)));(case aB=>exact bl_);(case aF=>exact (fun _ _=>trivial));(case aO=>exact (xd_ HO297.out));(case aS=>exact (aez bl_));(case aL=>have:=LMc10.out;omega);intro v299 w14 ho hb hg hat;rw [<-Ny298.out] at ho;have n_:=Zb (Za (hb)) (Za (ho));clear HB HO297;obtain ⟨HB,HO300⟩:=n_;clear ho hb hg hat)|((with_reducible refine anz (b:= .append) (xs:= #[.tmp 40, .tmp 41]) rfl ?_);(try (refine aYz (by rfl) ?_;dsimp only));at_builtin;refine Kd.chz (Kd.int .i64) (w0:=w) w.heap.size rfl (.tmp 40) (.tmp 41) 57 3 (.int .i64 0) 8 rfl Tryz.underlying57 info3 rfl (by decide) (by omega) v299 y298 l3 _ _ _ (fun _=>True) (fun _=>False) rfl rfl ?aO ?aR (fun _ _ h=>h) (fun _ h=>h.elim) ?aF ?aB ?aS ?aL ?_;(case aR=>repeat (first|exact (Kd.azz HR3.out HB.out)|(with_reducible refine Kd.b0z ?_ _)|(with_reducible refine Kd.buz ?_ _)|(with_reducible refine Kd.b4z ?_)));(case aB=>exact bl_);(case aF=>exact (fun _ _=>trivial));(case aO=>exact (xd_ HO300.out));(case aS=>exact (aez bl_));(case aL=>have:=LMc11.out;omega);intro v302 w15 ho hb hg hat;rw [<-Ny301.out] at ho;have n_:=Zb (Za (hb)) (Za (ho));clear HB HO300;obtain ⟨HB,HO303⟩:=n_;clear ho hb hg hat))
   repeat (go_quiet (first|((with_reducible refine blz (N:=37) rfl ?_);(try (refine aYz (by rfl) ?_;dsimp only));refine Kd.R_lit (Kd.int .i64) _ 3 ?hg (N:=37) ?hd (xs:=([] :List Int)) (inner:= []) (ok:=fun _=>True) (okp:=fun _=>True) ?hr ?hp (fun _ hk=>hk) trivial (Zw _ _) (Zv _) (by simp) ?_;(case hd=>rfl);(case hg=>rfl);(case hr=>first|(go_simp;done)|(go_simp;rfl));(case hp=>exact (Reps.none _ _));intro v296 w12 ho13 hb hg_ hnew_;clear hg_ hnew_;(first|rw [<-Ny295.out] at ho13|(simp only [Int.reduceToNat] at ho13;rw [<-Ny295.out] at ho13));have n_:=Zb (Za (Kd.bDz ho13 (aez bl_))) (hs_ HB hb);clear HB;obtain ⟨HO297,HB⟩:=n_;clear hb ho13)|((with_reducible refine anz (b:= .append) (xs:= #[.tmp 37, .tmp 38]) rfl ?_);(try (refine aYz (by rfl) ?_;dsimp only));at_builtin;refine Kd.chz (Kd.int .i64) (w0:=w) w.heap.size rfl (.tmp 37) (.tmp 38) 57 3 (.int .i64 0) 8 rfl Tryz.underlying57 info3 rfl (by decide) (by omega) v296 y295 l2 _ _ _ (fun _=>True) (fun _=>False) rfl rfl ?aO ?aR (fun _ _ h=>h) (fun _ h=>h.elim) ?aF ?aB ?aS ?aL ?_;(case aR=>repeat (first|exact (Kd.azz HR2.out HB.out)|(with_reducible refine Kd.b0z ?_ _)|(with_reducible refine Kd.buz ?_ _)|(with_reducible refine Kd.b4z ?_)));(case aB=>exact bl_);(case aF=>exact (fun _ _=>trivial));(case aO=>exact (xd_ HO297.out));(case aS=>exact (aez bl_));(case aL=>have:=LMc10.out;omega);intro v299 w14 ho hb hg hat;rw [<-Ny298.out] at ho;have n_:=Zb (Za (hb)) (Za (ho));clear HB HO297;obtain ⟨HB,HO300⟩:=n_;clear ho hb hg hat)|((with_reducible refine anz (b:= .append) (xs:= #[.tmp 40, .tmp 41]) rfl ?_);(try (refine aYz (by rfl) ?_;dsimp only));at_builtin;refine Kd.chz (Kd.int .i64) (w0:=w) w.heap.size rfl (.tmp 40) (.tmp 41) 57 3 (.int .i64 0) 8 rfl Tryz.underlying57 info3 rfl (by decide) (by omega) v299 y298 l3 _ _ _ (fun _=>True) (fun _=>False) rfl rfl ?aO ?aR (fun _ _ h=>h) (fun _ h=>h.elim) ?aF ?aB ?aS ?aL ?_;(case aR=>repeat (first|exact (Kd.azz HR3.out HB.out)|(with_reducible refine Kd.b0z ?_ _)|(with_reducible refine Kd.buz ?_ _)|(with_reducible refine Kd.b4z ?_)));(case aB=>exact bl_);(case aF=>exact (fun _ _=>trivial));(case aO=>exact (xd_ HO300.out));(case aS=>exact (aez bl_));(case aL=>have:=LMc11.out;omega);intro v302 w15 ho hb hg hat;rw [<-Ny301.out] at ho;have n_:=Zb (Za (hb)) (Za (ho));clear HB HO300;obtain ⟨HB,HO303⟩:=n_;clear ho hb hg hat));try go_wp2_with (first|((with_reducible refine blz (N:=37) rfl ?_);(try (refine aYz (by rfl) ?_;dsimp only));refine Kd.R_lit (Kd.int .i64) _ 3 ?hg (N:=37) ?hd (xs:=([] :List Int)) (inner:= []) (ok:=fun _=>True) (okp:=fun _=>True) ?hr ?hp (fun _ hk=>hk) trivial (Zw _ _) (Zv _) (by simp) ?_;(case hd=>rfl);(case hg=>rfl);(case hr=>first|(go_simp;done)|(go_simp;rfl));(case hp=>exact (Reps.none _ _));intro v296 w12 ho13 hb hg_ hnew_;clear hg_ hnew_;(first|rw [<-Ny295.out] at ho13|(simp only [Int.reduceToNat] at ho13;rw [<-Ny295.out] at ho13));have n_:=Zb (Za (Kd.bDz ho13 (aez bl_))) (hs_ HB hb);clear HB;obtain ⟨HO297,HB⟩:=n_;clear hb ho13)|((with_reducible refine anz (b:= .append) (xs:= #[.tmp 37, .tmp 38]) rfl ?_);(try (refine aYz (by rfl) ?_;dsimp only));at_builtin;refine Kd.chz (Kd.int .i64) (w0:=w) w.heap.size rfl (.tmp 37) (.tmp 38) 57 3 (.int .i64 0) 8 rfl Tryz.underlying57 info3 rfl (by decide) (by omega) v296 y295 l2 _ _ _ (fun _=>True) (fun _=>False) rfl rfl ?aO ?aR (fun _ _ h=>h) (fun _ h=>h.elim) ?aF ?aB ?aS ?aL ?_;(case aR=>repeat (first|exact (Kd.azz HR2.out HB.out)|(with_reducible refine Kd.b0z ?_ _)|(with_reducible refine Kd.buz ?_ _)|(with_reducible refine Kd.b4z ?_)));(case aB=>exact bl_);(case aF=>exact (fun _ _=>trivial));(case aO=>exact (xd_ HO297.out));(case aS=>exact (aez bl_));(case aL=>have:=LMc10.out;omega);intro v299 w14 ho hb hg hat;rw [<-Ny298.out] at ho;have n_:=Zb (Za (hb)) (Za (ho));clear HB HO297;obtain ⟨HB,HO300⟩:=n_;clear ho hb hg hat)|((with_reducible refine anz (b:= .append) (xs:= #[.tmp 40, .tmp 41]) rfl ?_);(try (refine aYz (by rfl) ?_;dsimp only));at_builtin;refine Kd.chz (Kd.int .i64) (w0:=w) w.heap.size rfl (.tmp 40) (.tmp 41) 57 3 (.int .i64 0) 8 rfl Tryz.underlying57 info3 rfl (by decide) (by omega) v299 y298 l3 _ _ _ (fun _=>True) (fun _=>False) rfl rfl ?aO ?aR (fun _ _ h=>h) (fun _ h=>h.elim) ?aF ?aB ?aS ?aL ?_;(case aR=>repeat (first|exact (Kd.azz HR3.out HB.out)|(with_reducible refine Kd.b0z ?_ _)|(with_reducible refine Kd.buz ?_ _)|(with_reducible refine Kd.b4z ?_)));(case aB=>exact bl_);(case aF=>exact (fun _ _=>trivial));(case aO=>exact (xd_ HO300.out));(case aS=>exact (aez bl_));(case aL=>have:=LMc11.out;omega);intro v302 w15 ho hb hg hat;rw [<-Ny301.out] at ho;have n_:=Zb (Za (hb)) (Za (ho));clear HB HO300;obtain ⟨HB,HO303⟩:=n_;clear ho hb hg hat)))
   go_loopg [11] kj4 (fun kq v11 w'=> ∃(x11_2:Int),v11= .int .i64 x11_2/\Aside0 (ajz.l0 kq a0 a1 l2 l3 y301 x11_2=some (r1,r2))/\Aside0 (kq<=kj4)/\Aside0 (Kd.R (Kd.int .i64) 3 w' w.heap.size (fun _=>True) v302 y301)/\Aside0 (Below w.heap.size w w'))
   case atStart=>exact ⟨(0),sd_,H',⟨Zv _⟩,⟨xd_ HO303.out⟩,⟨bl_⟩⟩
   clear H';obtain ⟨x11_2,rfl,HA,HK2,HO_10,HB⟩:=hrel;rcases gk with _|k2
   ·exact Yf HA.out (by simp [ajz.l0])
   have H:=HA.out;clear HA;simp only [ajz.l0] at H;by_cases c16:x11_2<(y301.length:Int)
   rotate_left
   ·rw [Yb c16] at H;have c16b0:=Ze c16;clear c16;have H':=Za H;clear H;obtain ⟨Ao28,co28,eo28⟩:=Kd.aRz HO_10.out;subst eo28;go_wp2
    repeat (go_quiet (fail);try go_wp2)
    go_loopg [13,14] k2 (fun kq v13 v14 w'=> ∃(x13_3:List (List Int)) (x14_3:Int),v14= .int .i64 x14_3/\Aside0 (ajz.l2 kq a0 a1 l2 l3 x13_3 x14_3=some (r1,r2))/\Aside0 (kq<=k2)/\Aside0 (Kd.S (Kd.slice 3 (Kd.int .i64)) 57 w' w.heap.size (fun _=>True) v13 x13_3)/\Aside0 (Below w.heap.size w w'))
    case atStart=>exact ⟨(([] :List (List Int))),(0),sd_,H',⟨Zv _⟩,⟨nl_⟩,⟨bl_⟩⟩
    clear H';clear c16b0;obtain ⟨x13_3,x14_3,rfl,HA,HK3,HO_13,HB⟩:=hrel;rcases gk with _|k3
    ·exact Yf HA.out (by simp [ajz.l2])
    have H:=HA.out;clear HA;simp only [ajz.l2] at H;by_cases c29:x14_3<(l2.length:Int)
    rotate_left
    ·rw [Yb c29] at H;have c29b0:=Ze c29;clear c29;simp only [Zx,Zy] at H;obtain ⟨rfl,rfl⟩:=H;go_wp2
     repeat (go_quiet (fail);try go_wp2)
     go_ret2;exact ⟨_,er_,xd_ HO_13.out,bl_⟩
    rw [Ya c29] at H;have c29b0:=Zd c29;clear c29;have H':=Za H;clear H;go_wp2
    repeat (go_quiet (fail);try go_wp2)
    go_loopg [15,16] k3 (fun kq v15 v16 w'=> ∃(x15_4:List Int) (x16_4:Int),v16= .int .i64 x16_4/\Aside0 (ajz.l3 kq a0 a1 l2 l3 x13_3 x14_3 x15_4 x16_4=some (r1,r2))/\Aside0 (kq<=k3)/\Aside0 (Kd.S (Kd.slice 3 (Kd.int .i64)) 57 w' w.heap.size (fun k_=>some k_≠(v15:Value).ownBlock) u13 x13_3)/\Aside0 (Kd.R (Kd.int .i64) 3 w' w.heap.size (fun _=>True) v15 x15_4)/\Aside0 (Below w.heap.size w w'))
    case atStart=>exact ⟨(([] :List Int)),(0),sd_,H',⟨Zv _⟩,⟨sm_ HO_13⟩,⟨nl_⟩,⟨bl_⟩⟩
    clear H';clear c29b0;obtain ⟨x15_4,x16_4,rfl,HA,HK4,HO_13,HO_15,HB⟩:=hrel;rcases gk with _|k4
    ·exact Yf HA.out (by simp [ajz.l3])
    have H:=HA.out;clear HA;simp only [ajz.l3] at H;by_cases c30:x16_4<(l3.length:Int)
    rotate_left
    ·rw [Yb c30] at H;have c30b0:=Ze c30;clear c30;by_cases c37:x13_3.length<5864062014805
     rotate_left
     ·rw [Yb c37] at H;exact Yf H (by simp)
     rw [Ya c37] at H;have LMc37:=Za c37;clear c37;obtain ⟨y315,hy315⟩: ∃y_:List (List Int),y_=(x13_3++ [x15_4]):=⟨_,rfl⟩
     first|rw [Zl, <-hy315] at H|rw [<-hy315] at H
     (try dsimp only at H)
     have Ny315:=Za hy315;clear hy315;have H':=Za H;clear H;obtain ⟨Ao39,co39,eo39⟩:=Kd.aRz HO_15.out;subst eo39
     go_wp2_with (first|((with_reducible refine anz (b:= .append) (xs:= #[.tmp 101, .tmp 103]) rfl ?_);(try (refine aYz (by rfl) ?_;dsimp only));at_builtin;refine Kd.bLz (Kd.slice 3 (Kd.int .i64)) (w0:=w) w.heap.size rfl (.tmp 101) (.tmp 103) 68 57 (.slice none 0 0) 24 rfl Tryz.underlying68 info57 rfl (by decide) (by omega) u13 x13_3 x15_4 [.slice Ao39 x15_4.length co39] (fun _=>True) (fun k_=>some k_=(.slice Ao39 x15_4.length co39:Value).ownBlock) rfl rfl ?aP (fun k_ hk_=>((Kd.aJz (ok':=fun k_=>((fun _=>True)) k_/\some k_≠(u13:Value).ownBlock) (Kd.brz (HO_15.out) (Kd.bNz HO_13.out) (by decide)) (fun k_ hk=>⟨trivial,hk.2⟩))).1 k_ hk_.symm) ?aF ?aO ?aB ?aS ?aL ?_;(case aP=>exact Kd.M_row (Kd.aJz (Kd.ciz rfl (Kd.aJz (ok':=fun k_=>((fun _=>True)) k_/\some k_≠(u13:Value).ownBlock) (Kd.brz (HO_15.out) (Kd.bNz HO_13.out) (by decide)) (fun k_ hk=>⟨trivial,hk.2⟩))) (fun _ h_=>h_)));(case aB=>exact bl_);(case aF=>exact (fun _ _=>trivial));(case aO=>exact (sm_ HO_13));(case aS=>exact (aez bl_));(case aL=>have:=LMc37.out;omega);intro v316 w38 ho hb hg hat;rw [<-Ny315.out] at ho;have n_:=Zb (Za (hb)) (Za (ho));clear HB HO_13 HO_15;obtain ⟨HB,HO317⟩:=n_;clear ho hb hg hat))
     repeat (go_quiet (first|((with_reducible refine anz (b:= .append) (xs:= #[.tmp 101, .tmp 103]) rfl ?_);(try (refine aYz (by rfl) ?_;dsimp only));at_builtin;refine Kd.bLz (Kd.slice 3 (Kd.int .i64)) (w0:=w) w.heap.size rfl (.tmp 101) (.tmp 103) 68 57 (.slice none 0 0) 24 rfl Tryz.underlying68 info57 rfl (by decide) (by omega) u13 x13_3 x15_4 [.slice Ao39 x15_4.length co39] (fun _=>True) (fun k_=>some k_=(.slice Ao39 x15_4.length co39:Value).ownBlock) rfl rfl ?aP (fun k_ hk_=>((Kd.aJz (ok':=fun k_=>((fun _=>True)) k_/\some k_≠(u13:Value).ownBlock) (Kd.brz (HO_15.out) (Kd.bNz HO_13.out) (by decide)) (fun k_ hk=>⟨trivial,hk.2⟩))).1 k_ hk_.symm) ?aF ?aO ?aB ?aS ?aL ?_;(case aP=>exact Kd.M_row (Kd.aJz (Kd.ciz rfl (Kd.aJz (ok':=fun k_=>((fun _=>True)) k_/\some k_≠(u13:Value).ownBlock) (Kd.brz (HO_15.out) (Kd.bNz HO_13.out) (by decide)) (fun k_ hk=>⟨trivial,hk.2⟩))) (fun _ h_=>h_)));(case aB=>exact bl_);(case aF=>exact (fun _ _=>trivial));(case aO=>exact (sm_ HO_13));(case aS=>exact (aez bl_));(case aL=>have:=LMc37.out;omega);intro v316 w38 ho hb hg hat;rw [<-Ny315.out] at ho;have n_:=Zb (Za (hb)) (Za (ho));clear HB HO_13 HO_15;obtain ⟨HB,HO317⟩:=n_;clear ho hb hg hat));try go_wp2_with (first|((with_reducible refine anz (b:= .append) (xs:= #[.tmp 101, .tmp 103]) rfl ?_);(try (refine aYz (by rfl) ?_;dsimp only));at_builtin;refine Kd.bLz (Kd.slice 3 (Kd.int .i64)) (w0:=w) w.heap.size rfl (.tmp 101) (.tmp 103) 68 57 (.slice none 0 0) 24 rfl Tryz.underlying68 info57 rfl (by decide) (by omega) u13 x13_3 x15_4 [.slice Ao39 x15_4.length co39] (fun _=>True) (fun k_=>some k_=(.slice Ao39 x15_4.length co39:Value).ownBlock) rfl rfl ?aP (fun k_ hk_=>((Kd.aJz (ok':=fun k_=>((fun _=>True)) k_/\some k_≠(u13:Value).ownBlock) (Kd.brz (HO_15.out) (Kd.bNz HO_13.out) (by decide)) (fun k_ hk=>⟨trivial,hk.2⟩))).1 k_ hk_.symm) ?aF ?aO ?aB ?aS ?aL ?_;(case aP=>exact Kd.M_row (Kd.aJz (Kd.ciz rfl (Kd.aJz (ok':=fun k_=>((fun _=>True)) k_/\some k_≠(u13:Value).ownBlock) (Kd.brz (HO_15.out) (Kd.bNz HO_13.out) (by decide)) (fun k_ hk=>⟨trivial,hk.2⟩))) (fun _ h_=>h_)));(case aB=>exact bl_);(case aF=>exact (fun _ _=>trivial));(case aO=>exact (sm_ HO_13));(case aS=>exact (aez bl_));(case aL=>have:=LMc37.out;omega);intro v316 w38 ho hb hg hat;rw [<-Ny315.out] at ho;have n_:=Zb (Za (hb)) (Za (ho));clear HB HO_13 HO_15;obtain ⟨HB,HO317⟩:=n_;clear ho hb hg hat)))
     go_roundg k4
     case measure=>have:=HJ4.out;have:=HK2.out;have:=HK3.out;have:=HK4.out;omega
     case rel=>exact ⟨(y315),(wrap64 (x14_3+1)),sd_,H',⟨by have:=HJ4.out;have:=HK2.out;have:=HK3.out;have:=HK4.out;omega⟩,⟨xd_ HO317.out⟩,⟨bl_⟩⟩
    rw [Ya c30] at H;have c30b0:=Zd c30;clear c30;by_cases c31:0<=x14_3
    rotate_left
    ·rw [Yb c31] at H;exact Yf H (by simp)
    rw [Ya c31] at H;have c31b0:=Zd c31;clear c31;by_cases c32:x14_3<(l2.length:Int)
    rotate_left
    ·rw [Yb c32] at H;exact Yf H (by simp)
    rw [Ya c32] at H;have c32b0:=Zd c32;clear c32;by_cases c33:0<=x16_4
    rotate_left
    ·rw [Yb c33] at H;exact Yf H (by simp)
    rw [Ya c33] at H;have c33b0:=Zd c33;clear c33;obtain ⟨⟨t310,t311⟩,A34,H⟩:=ob_ H
    (try dsimp only at H)
    by_cases c35:x15_4.length<17592186044416
    rotate_left
    ·rw [Yb c35] at H;exact Yf H (by simp)
    rw [Ya c35] at H;have LMc35:=Za c35;clear c35;obtain ⟨y312,hy312⟩: ∃y_:List Int,y_=(x15_4++ [t310]):=⟨_,rfl⟩
    first|rw [Zl, <-hy312] at H|rw [<-hy312] at H
    (try dsimp only at H)
    have Ny312:=Za hy312;clear hy312;have H':=Za H;clear H;have p308:0<=(x14_3:Int):=Zc as_;have q308:x14_3<(l2.length:Int):=Zc as_;obtain ⟨_,e308,hx308_0⟩:=Kd.bAz HR2.out x14_3 p308 q308;cases e308
    replace hx308_0:=(HB.out.cell (Zj w _ hx308_0)).trans hx308_0;replace p308:=Zz p308;replace q308:=Zz q308;have p309:0<=(x16_4:Int):=Zc as_;have q309:x16_4<(l3.length:Int):=Zc as_;obtain ⟨_,e309,hx309_0⟩:=Kd.bAz HR3.out x16_4 p309 q309;cases e309
    replace hx309_0:=(HB.out.cell (Zj w _ hx309_0)).trans hx309_0;replace p309:=Zz p309;replace q309:=Zz q309
    go_wp2_with (first|(go_at_call 146;(with_reducible refine (aqz.calls k4 a0 a1 (Go.bits .xor .i64 (rd l2 x14_3) (rd l3 x16_4)) t310 t311 _ A34.out).mono ?_);rintro e w' ⟨rfl,⟨nd,rfl⟩⟩;(try first|exact ⟨rfl,_,World.drewN_drewN _ _ _⟩|exact ⟨rfl,_,Eq.trans (World.drewN_drewN _ _ _) (congrArg (World.drewN _) (Nat.add_assoc _ _ _))⟩))|((with_reducible refine anz (b:= .append) (xs:= #[.tmp 97, .tmp 99]) rfl ?_);(try (refine aYz (by rfl) ?_;dsimp only));at_builtin;refine Kd.bxz (Kd.int .i64) (w0:=w) w.heap.size rfl (.tmp 97) (.tmp 99) 57 3 (.int .i64 0) 8 rfl Tryz.underlying57 info3 rfl (by decide) (by omega) u15 x15_4 t310 [.int .i64 t310] (fun _=>True) (fun _=>False) rfl rfl ?aP (fun _ hk=>hk.elim) ?aF ?aO ?aB ?aS ?aL ?_;(case aP=>exact rfl);(case aB=>exact bl_);(case aF=>exact (fun _ _=>trivial));(case aO=>exact (xd_ HO_15.out));(case aS=>exact (aez bl_));(case aL=>have:=LMc35.out;omega);intro v313 w36 ho hb hg hat;rw [<-Ny312.out] at ho;have n_:=Zb (Za (Kd.cYz (ok:=(fun _=>True)) (sm_ HO_13) hg hat)) (Zb (Za (hb)) (Za (ho)));clear HO_13 HB HO_15;obtain ⟨HO_13,HB,HO314⟩:=n_;clear ho hb hg hat))
    repeat (go_quiet (first|(go_at_call 146;(with_reducible refine (aqz.calls k4 a0 a1 (Go.bits .xor .i64 (rd l2 x14_3) (rd l3 x16_4)) t310 t311 _ A34.out).mono ?_);rintro e w' ⟨rfl,⟨nd,rfl⟩⟩;(try first|exact ⟨rfl,_,World.drewN_drewN _ _ _⟩|exact ⟨rfl,_,Eq.trans (World.drewN_drewN _ _ _) (congrArg (World.drewN _) (Nat.add_assoc _ _ _))⟩))|((with_reducible refine anz (b:= .append) (xs:= #[.tmp 97, .tmp 99]) rfl ?_);(try (refine aYz (by rfl) ?_;dsimp only));at_builtin;refine Kd.bxz (Kd.int .i64) (w0:=w) w.heap.size rfl (.tmp 97) (.tmp 99) 57 3 (.int .i64 0) 8 rfl Tryz.underlying57 info3 rfl (by decide) (by omega) u15 x15_4 t310 [.int .i64 t310] (fun _=>True) (fun _=>False) rfl rfl ?aP (fun _ hk=>hk.elim) ?aF ?aO ?aB ?aS ?aL ?_;(case aP=>exact rfl);(case aB=>exact bl_);(case aF=>exact (fun _ _=>trivial));(case aO=>exact (xd_ HO_15.out));(case aS=>exact (aez bl_));(case aL=>have:=LMc35.out;omega);intro v313 w36 ho hb hg hat;rw [<-Ny312.out] at ho;have n_:=Zb (Za (Kd.cYz (ok:=(fun _=>True)) (sm_ HO_13) hg hat)) (Zb (Za (hb)) (Za (ho)));clear HO_13 HB HO_15;obtain ⟨HO_13,HB,HO314⟩:=n_;clear ho hb hg hat));try go_wp2_with (first|(go_at_call 146;(with_reducible refine (aqz.calls k4 a0 a1 (Go.bits .xor .i64 (rd l2 x14_3) (rd l3 x16_4)) t310 t311 _ A34.out).mono ?_);rintro e w' ⟨rfl,⟨nd,rfl⟩⟩;(try first|exact ⟨rfl,_,World.drewN_drewN _ _ _⟩|exact ⟨rfl,_,Eq.trans (World.drewN_drewN _ _ _) (congrArg (World.drewN _) (Nat.add_assoc _ _ _))⟩))|((with_reducible refine anz (b:= .append) (xs:= #[.tmp 97, .tmp 99]) rfl ?_);(try (refine aYz (by rfl) ?_;dsimp only));at_builtin;refine Kd.bxz (Kd.int .i64) (w0:=w) w.heap.size rfl (.tmp 97) (.tmp 99) 57 3 (.int .i64 0) 8 rfl Tryz.underlying57 info3 rfl (by decide) (by omega) u15 x15_4 t310 [.int .i64 t310] (fun _=>True) (fun _=>False) rfl rfl ?aP (fun _ hk=>hk.elim) ?aF ?aO ?aB ?aS ?aL ?_;(case aP=>exact rfl);(case aB=>exact bl_);(case aF=>exact (fun _ _=>trivial));(case aO=>exact (xd_ HO_15.out));(case aS=>exact (aez bl_));(case aL=>have:=LMc35.out;omega);intro v313 w36 ho hb hg hat;rw [<-Ny312.out] at ho;have n_:=Zb (Za (Kd.cYz (ok:=(fun _=>True)) (sm_ HO_13) hg hat)) (Zb (Za (hb)) (Za (ho)));clear HO_13 HB HO_15;obtain ⟨HO_13,HB,HO314⟩:=n_;clear ho hb hg hat)))
    go_roundg k4
    case measure=>have:=HJ4.out;have:=HK2.out;have:=HK3.out;have:=HK4.out;omega
    case rel=>exact ⟨(y312),(wrap64 (x16_4+1)),sd_,H',⟨by have:=HJ4.out;have:=HK2.out;have:=HK3.out;have:=HK4.out;omega⟩,⟨sm_ HO_13⟩,⟨xd_ HO314.out⟩,⟨bl_⟩⟩
   rw [Ya c16] at H;have c16b0:=Zd c16;clear c16;by_cases c17:0<=x11_2
   rotate_left
   ·rw [Yb c17] at H;exact Yf H (by simp)
   rw [Ya c17] at H;have c17b0:=Zd c17;clear c17;obtain ⟨t305,A18,H⟩:=ob_ H
   (try dsimp only at H)
   by_cases c19:t305=true
   rotate_left
   ·replace c19:=Zr c19;subst c19;rw [Yb (show¬(false=true) by decide)] at H;simp only [Zx,Zy] at H;obtain ⟨rfl,rfl⟩:=H;obtain ⟨Ao27,co27,eo27⟩:=Kd.aRz HO_10.out;subst eo27;have p304:0<=(x11_2:Int):=Zc as_;have q304:x11_2<(y301.length:Int):=Zc as_;obtain ⟨ad304,e304,hx304_0⟩:=Kd.bAz (Kd.aNz HO_10.out).2.2 x11_2 p304 q304;cases e304
    replace p304:=Zz p304;replace q304:=Zz q304
    go_wp2_with (first|(go_at_call 106;(with_reducible refine (afz.calls k2 a0 (rd y301 x11_2) false _ A18.out).mono ?_);rintro e w' ⟨rfl,⟨nd,rfl⟩⟩;(try first|exact ⟨rfl,_,World.drewN_drewN _ _ _⟩|exact ⟨rfl,_,Eq.trans (World.drewN_drewN _ _ _) (congrArg (World.drewN _) (Nat.add_assoc _ _ _))⟩)))
    repeat (go_quiet (first|(go_at_call 106;(with_reducible refine (afz.calls k2 a0 (rd y301 x11_2) false _ A18.out).mono ?_);rintro e w' ⟨rfl,⟨nd,rfl⟩⟩;(try first|exact ⟨rfl,_,World.drewN_drewN _ _ _⟩|exact ⟨rfl,_,Eq.trans (World.drewN_drewN _ _ _) (congrArg (World.drewN _) (Nat.add_assoc _ _ _))⟩)));try go_wp2_with (first|(go_at_call 106;(with_reducible refine (afz.calls k2 a0 (rd y301 x11_2) false _ A18.out).mono ?_);rintro e w' ⟨rfl,⟨nd,rfl⟩⟩;(try first|exact ⟨rfl,_,World.drewN_drewN _ _ _⟩|exact ⟨rfl,_,Eq.trans (World.drewN_drewN _ _ _) (congrArg (World.drewN _) (Nat.add_assoc _ _ _))⟩))))
    go_ret2;exact ⟨_,er_,nl_,bl_⟩
   subst c19;rw [Ya rfl] at H;have H':=Za H;clear H;obtain ⟨Ao20,co20,eo20⟩:=Kd.aRz HO_10.out;subst eo20;have p304:0<=(x11_2:Int):=Zc as_;have q304:x11_2<(y301.length:Int):=Zc as_;obtain ⟨ad304,e304,hx304_0⟩:=Kd.bAz (Kd.aNz HO_10.out).2.2 x11_2 p304 q304;cases e304
   replace p304:=Zz p304;replace q304:=Zz q304
   go_wp2_with (first|(go_at_call 106;(with_reducible refine (afz.calls k2 a0 (rd y301 x11_2) true _ A18.out).mono ?_);rintro e w' ⟨rfl,⟨nd,rfl⟩⟩;(try first|exact ⟨rfl,_,World.drewN_drewN _ _ _⟩|exact ⟨rfl,_,Eq.trans (World.drewN_drewN _ _ _) (congrArg (World.drewN _) (Nat.add_assoc _ _ _))⟩)))
   repeat (go_quiet (first|(go_at_call 106;(with_reducible refine (afz.calls k2 a0 (rd y301 x11_2) true _ A18.out).mono ?_);rintro e w' ⟨rfl,⟨nd,rfl⟩⟩;(try first|exact ⟨rfl,_,World.drewN_drewN _ _ _⟩|exact ⟨rfl,_,Eq.trans (World.drewN_drewN _ _ _) (congrArg (World.drewN _) (Nat.add_assoc _ _ _))⟩)));try go_wp2_with (first|(go_at_call 106;(with_reducible refine (afz.calls k2 a0 (rd y301 x11_2) true _ A18.out).mono ?_);rintro e w' ⟨rfl,⟨nd,rfl⟩⟩;(try first|exact ⟨rfl,_,World.drewN_drewN _ _ _⟩|exact ⟨rfl,_,Eq.trans (World.drewN_drewN _ _ _) (congrArg (World.drewN _) (Nat.add_assoc _ _ _))⟩))))
   go_loopg [12] k2 (fun kq v12 w'=> ∃(x12_3:Int),v12= .int .i64 x12_3/\Aside0 (ajz.l1 kq a0 a1 l2 l3 y301 x11_2 x12_3=some (r1,r2))/\Aside0 (kq<=k2)/\Aside0 (Kd.R (Kd.int .i64) 3 w' w.heap.size (fun _=>True) (.slice (some ad304) y301.length co20) y301)/\Aside0 (Below w.heap.size w w'))
   case atStart=>exact ⟨(0),sd_,H',⟨Zv _⟩,⟨xd_ HO_10.out⟩,⟨bl_⟩⟩
   clear H';clear c16b0 c17b0 hx304_0 p304 q304;obtain ⟨x12_3,rfl,HA,HK3,HO_10,HB⟩:=hrel;rcases gk with _|k3
   ·exact Yf HA.out (by simp [ajz.l1])
   have H:=HA.out;clear HA;simp only [ajz.l1] at H;by_cases c21:x12_3<x11_2
   rotate_left
   ·rw [Yb c21] at H;have c21b0:=Ze c21;clear c21;have H':=Za H;clear H;go_wp2
    repeat (go_quiet (fail);try go_wp2)
    go_roundg k3
    case measure=>have:=HJ4.out;have:=HK2.out;have:=HK3.out;omega
    case rel=>exact ⟨(wrap64 (x11_2+1)),sd_,H',⟨by have:=HJ4.out;have:=HK2.out;have:=HK3.out;omega⟩,⟨xd_ HO_10.out⟩,⟨bl_⟩⟩
   rw [Ya c21] at H;have c21b0:=Zd c21;clear c21;by_cases c22:0<=x11_2
   rotate_left
   ·rw [Yb c22] at H;exact Yf H (by simp)
   rw [Ya c22] at H;have c22b0:=Zd c22;clear c22;by_cases c23:x11_2<(y301.length:Int)
   rotate_left
   ·rw [Yb c23] at H;exact Yf H (by simp)
   rw [Ya c23] at H;have c23b0:=Zd c23;clear c23;by_cases c24:0<=x12_3
   rotate_left
   ·rw [Yb c24] at H;exact Yf H (by simp)
   rw [Ya c24] at H;have c24b0:=Zd c24;clear c24;by_cases c25:x12_3<(y301.length:Int)
   rotate_left
   ·rw [Yb c25] at H;exact Yf H (by simp)
   rw [Ya c25] at H;have c25b0:=Zd c25;clear c25;by_cases c26:(rd y301 x11_2)=(rd y301 x12_3)
   ·rw [Ya c26] at H;have c26b0:((rd y301 x11_2)==(rd y301 x12_3))=true:=Ye c26;have c26b1:((rd y301 x11_2) !=(rd y301 x12_3))=false:=Yc c26;clear c26;simp only [Zx,Zy] at H;obtain ⟨rfl,rfl⟩:=H;have p306:0<=(x11_2:Int):=Zc as_;have q306:x11_2<(y301.length:Int):=Zc as_;obtain ⟨ad306,e306,hx306_0⟩:=Kd.bAz (Kd.aNz HO_10.out).2.2 x11_2 p306 q306;obtain rfl:ad304=ad306:=(by injection e306);replace p306:=Zz p306;replace q306:=Zz q306;have p307:0<=(x12_3:Int):=Zc as_;have q307:x12_3<(y301.length:Int):=Zc as_;obtain ⟨ad307,e307,hx307_0⟩:=Kd.bAz (Kd.aNz HO_10.out).2.2 x12_3 p307 q307;obtain rfl:ad304=ad307:=(by injection e307);replace p307:=Zz p307;replace q307:=Zz q307;go_wp2
    repeat (go_quiet (fail);try go_wp2)
    go_ret2;exact ⟨_,er_,nl_,bl_⟩
   ·rw [Yb c26] at H;have c26b0:((rd y301 x11_2)==(rd y301 x12_3))=false:=Zq c26;have c26b1:((rd y301 x11_2) !=(rd y301 x12_3))=true:=Yd c26;have H':=Za H;clear H;have p306:0<=(x11_2:Int):=Zc as_;have q306:x11_2<(y301.length:Int):=Zc as_;obtain ⟨ad306,e306,hx306_0⟩:=Kd.bAz (Kd.aNz HO_10.out).2.2 x11_2 p306 q306;obtain rfl:ad304=ad306:=(by injection e306);replace p306:=Zz p306;replace q306:=Zz q306;have p307:0<=(x12_3:Int):=Zc as_;have q307:x12_3<(y301.length:Int):=Zc as_;obtain ⟨ad307,e307,hx307_0⟩:=Kd.bAz (Kd.aNz HO_10.out).2.2 x12_3 p307 q307;obtain rfl:ad304=ad307:=(by injection e307);replace p307:=Zz p307;replace q307:=Zz q307;go_wp2
    repeat (go_quiet (fail);try go_wp2)
    go_roundg k3
    case measure=>have:=HJ4.out;have:=HK2.out;have:=HK3.out;omega
    case rel=>exact ⟨(wrap64 (x12_3+1)),sd_,H',⟨by have:=HJ4.out;have:=HK2.out;have:=HK3.out;omega⟩,⟨xd_ HO_10.out⟩,⟨bl_⟩⟩
end Go.Proofs.Xc
end
