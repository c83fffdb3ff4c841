-- Joined texts of this work (wip/tools/bundle.py).
import Derived.Test.YtpdakdcmahlghaaGreatBCodecEncodes15
set_option maxHeartbeats 8000000
set_option maxRecDepth 100000
set_option linter.unusedVariables false
set_option linter.unusedSimpArgs false
section
namespace Go.Proofs.Xc
open Go.RowKit Go.Proofs.Pw Go.Proofs.Pl Go.Proofs.Pm
attribute [local go_sem] baz bbz bmz bnz a2z a3z bcz bdz
mutual
def aaz.l0:Nat->Int->Int->Int->Int->List (List Int)->List (List Int)->Int->Option ((List (List Int))×Bool)
 |0,_,_,_,_,_,_,_=>none
 |k+1,x0,x1,x2,x3,x14,x16,x17=>if x17<x3 then (aaz.l1 k x0 x1 x2 x3 x14 x16 x17 ([] :List Int) 0) else (some (x16,true))
def aaz.l1:Nat->Int->Int->Int->Int->List (List Int)->List (List Int)->Int->List Int->Int->Option ((List (List Int))×Bool)
 |0,_,_,_,_,_,_,_,_,_=>none
 |k+1,x0,x1,x2,x3,x14,x16,x17,x18,x19=>if x19<x2 then (if 0<=x17 then (if x17<(x14.length:Int) then (if 0<=x19 then (if x19<((rd_L4 x14 x17).length:Int) then (if 0<(x14.length:Int) then (if x19<((rd_L4 x14 0).length:Int) then ((a8z.f k x0 x1 (rd (rd_L4 x14 x17) x19) (rd (rd_L4 x14 0) x19)).bind fun t579=>(if x18.length<17592186044416 then (aaz.l1 k x0 x1 x2 x3 x14 x16 x17 (x18++ [t579]) (wrap64 (x19+1))) else (none))) else (none)) else (none)) else (none)) else (none)) else (none)) else (none)) else (aaz.l2 k x0 x1 x2 x3 x14 x16 x17 x18 ([] :List Int) 0)
def aaz.l2:Nat->Int->Int->Int->Int->List (List Int)->List (List Int)->Int->List Int->List Int->Int->Option ((List (List Int))×Bool)
 |0,_,_,_,_,_,_,_,_,_,_=>none
 |k+1,x0,x1,x2,x3,x14,x16,x17,x18,x20,x21=>if x21<x2 then (if 0<=x21 then (if x21<(x18.length:Int) then (if 0<(x18.length:Int) then ((a8z.f k x0 x1 (rd x18 x21) (rd x18 0)).bind fun t585=>(if x20.length<17592186044416 then (aaz.l2 k x0 x1 x2 x3 x14 x16 x17 x18 (x20++ [t585]) (wrap64 (x21+1))) else (none))) else (none)) else (none)) else (none)) else (if x16.length<5864062014805 then (aaz.l0 k x0 x1 x2 x3 x14 (x16++ [x20]) (wrap64 (x17+1))) else (none))
end
def aaz.f (k:Nat) (a0:Int) (a1:Int) (a2:Int) (a3:Int):Option ((List (List Int))×Bool):=(avz.f k a0 a1 a2 a3).bind fun bt553=>(if bt553.2=true then (if 0<=a2 then (if a2<=(bt553.1.length:Int) then ((ahz.f k a0 a1 (bt553.1.take (a2:Int).toNat)).bind fun bt562=>((akz.f k a0 a1 (bt553.1.drop (a2:Int).toNat) bt562.1).bind fun bt571=>(aaz.l0 k a0 a1 a2 a3 bt571.1 ([] :List (List Int)) 0))) else (none)) else (none)) else (some (([] :List (List Int)),false)))
theorem aaz.aWz: ∀k,(∀y0 y1 y2 y3 y4 y5 y6,LeO (aaz.l0 k y0 y1 y2 y3 y4 y5 y6) (aaz.l0 (k+1) y0 y1 y2 y3 y4 y5 y6))/\(∀y0 y1 y2 y3 y4 y5 y6 y7 y8,LeO (aaz.l1 k y0 y1 y2 y3 y4 y5 y6 y7 y8) (aaz.l1 (k+1) y0 y1 y2 y3 y4 y5 y6 y7 y8))/\(∀y0 y1 y2 y3 y4 y5 y6 y7 y8 y9,LeO (aaz.l2 k y0 y1 y2 y3 y4 y5 y6 y7 y8 y9) (aaz.l2 (k+1) y0 y1 y2 y3 y4 y5 y6 y7 y8 y9))
 |0=>⟨fun _ _ _ _ _ _ _ r h=>by simp [aaz.l0] at h,fun _ _ _ _ _ _ _ _ _ r h=>by simp [aaz.l1] at h,fun _ _ _ _ _ _ _ _ _ _ r h=>by simp [aaz.l2] at h⟩
 |k+1=>by
  obtain ⟨ih0,ih1,ih2⟩:=aaz.aWz k;refine ⟨?_,?_,?_⟩
  ·intro y0 y1 y2 y3 y4 y5 y6;unfold aaz.l0
   repeat' with_reducible first|apply ih0|apply ih1|apply ih2|apply akz.mono|apply ahz.mono|apply avz.mono|apply a8z.mono|apply LeO.refl|apply LeO.none|apply LeO.ite|refine LeO.bind ?_ fun _=>?_
  ·intro y0 y1 y2 y3 y4 y5 y6 y7 y8;unfold aaz.l1
   repeat' with_reducible first|apply ih0|apply ih1|apply ih2|apply akz.mono|apply ahz.mono|apply avz.mono|apply a8z.mono|apply LeO.refl|apply LeO.none|apply LeO.ite|refine LeO.bind ?_ fun _=>?_
  ·intro y0 y1 y2 y3 y4 y5 y6 y7 y8 y9;unfold aaz.l2
   repeat' with_reducible first|apply ih0|apply ih1|apply ih2|apply akz.mono|apply ahz.mono|apply avz.mono|apply a8z.mono|apply LeO.refl|apply LeO.none|apply LeO.ite|refine LeO.bind ?_ fun _=>?_
theorem aaz.mono: ∀a0 a1 a2 a3 k,LeO (aaz.f k a0 a1 a2 a3) (aaz.f (k+1) a0 a1 a2 a3):=by
 intro a0 a1 a2 a3 k;obtain ⟨ih0,ih1,ih2⟩:=aaz.aWz k;unfold aaz.f
 repeat' with_reducible first|apply ih0|apply ih1|apply ih2|apply akz.mono|apply ahz.mono|apply avz.mono|apply a8z.mono|apply LeO.refl|apply LeO.none|apply LeO.ite|refine LeO.bind ?_ fun _=>?_
def aaz.T14:Bool×List (List Nat×List Nat):=(true, [([], []),([], []),([], []),([], []),([], []),([3,4], [3,4]),([5], [5]),([], []),([6,7], [6,7]),([8], [8]),([], []),([10], [10]),([11], [11]),([], []),([12,13], [12,13]),([14], [14]),([1,2,9,15], [1,2,9,15]),([16], [16]),([0,17,16], [0,17]),([18,18,0,1,2,3,4,5,6,7,8,9,10,11,12,13,14,15,16,17,18], [0,18])])
def aaz.B14:List Nat:= [0,0,0,0,0,24,56,0,248,504,0,1024,3072,0,15360,31744,65534,131070,262143,524287]
theorem aaz.tab14:rtab .any (opsOf Tryz.f83 14)=aaz.T14:=by kernel_rfl
theorem aaz.bits14:waitsOk aaz.T14.2 aaz.B14=true:=by kernel_rfl
def aaz.T19:Bool×List (List Nat×List Nat):=(true, [([], []),([], []),([], []),([], []),([], []),([3,4], [3,4]),([5], [5]),([], []),([7], [7]),([8], [8]),([1,2,6,9], [1,2,6,9]),([10], [10]),([0,11,10], [0,11]),([12,12,0,1,2,3,4,5,6,7,8,9,10,11,12], [0,12])])
def aaz.B19:List Nat:= [0,0,0,0,0,24,56,0,128,384,1022,2046,4095,8191]
theorem aaz.tab19:rtab .any (opsOf Tryz.f83 19)=aaz.T19:=by kernel_rfl
theorem aaz.bits19:waitsOk aaz.T19.2 aaz.B19=true:=by kernel_rfl
theorem aaz.calls (k : Nat) (a0 : Int) (a1 : Int) (a2 : Int) (a3 : Int) (r1 : List (List Int)) (r2 : Bool) (w : World) (h : aaz.f k a0 a1 a2 a3 = some (r1, r2)) :
  Calls Tryz.prog 83 #[.int .i64 a0, .int .u32 a1, .int .i64 a2, .int .i64 a3] w fun e w'=> ∃v0_:Value,e= .returned (.tuple #[v0_, .bool r2])/\Kd.N (Kd.slice 3 (Kd.int .i64)) 57 w' w.heap.size (fun k_=>(w.heap.size<=k_)) v0_ r1/\Below w.heap.size w w':=by
 have HB:=Za (Zw w.heap.size w);have H:=h;clear h;unfold aaz.f at H;obtain ⟨⟨t553,t554⟩,A5,H⟩:=ob_ H
 (try dsimp only at H)
 by_cases c6:t554=true
 rotate_left
 ·replace c6:=Zr c6;subst c6;rw [Yb (show¬(false=true) by decide)] at H;simp only [Zx,Zy] at H;obtain ⟨rfl,rfl⟩:=H;go_enter Tryz.func83,Tryz.ntmps83
  go_wp2_with (first|((with_reducible refine abz (f:=126) rfl ?_);refine gl_ (some 27) Tryz.func126 #[.int .i64 a0, .int .u32 a1, .int .i64 a2, .int .i64 a3] ?_;(with_reducible refine (avz.calls k a0 a1 a2 a3 t553 false _ A5.out).mono ?_);rintro e w45 ⟨v555,rfl,ho0,hb⟩;refine ⟨_,rfl,?_⟩;have n_:=Zb (Za (Kd.bUz (Kd.bRz (ok':=fun k_=>(w.heap.size<=k_)) (Kd.S_N (Kd.bEz ho0)) (fun k_ hk_=>(Zt (acz bl_) hk_.2.1))) (acz bl_))) (hs_ HB hb);clear HB;obtain ⟨HO556,HB⟩:=n_;clear hb ho0))
  go_ret2;exact ⟨_,er_,nl_,bl_⟩
 subst c6;rw [Ya rfl] at H;by_cases c7:0<=a2
 rotate_left
 ·rw [Yb c7] at H;exact Yf H (by simp)
 rw [Ya c7] at H;have c7b0:=Zz c7;have c7b1:=Zd c7;clear c7;by_cases c8:a2<=(t553.length:Int)
 rotate_left
 ·rw [Yb c8] at H;exact Yf H (by simp)
 rw [Ya c8] at H;have c8b0:=Zz c8;have c8b1:=Zd c8;clear c8;obtain ⟨y557,hy557⟩: ∃y_:List (List Int),y_=(t553.take (a2:Int).toNat):=⟨_,rfl⟩
 first|rw [Zl, <-hy557] at H|rw [<-hy557] at H
 (try dsimp only at H)
 have Ny557:=Za hy557;clear hy557;obtain ⟨⟨t562,t565⟩,A9,H⟩:=ob_ H
 (try dsimp only at H)
 have c10b0:=Zz (Zc as_:0<=a2);have c11b0:=Zz (Zc as_:a2<=(t553.length:Int));obtain ⟨y566,hy566⟩: ∃y_:List (List Int),y_=(t553.drop (a2:Int).toNat):=⟨_,rfl⟩
 first|rw [Zl, <-hy566] at H|rw [<-hy566] at H
 (try dsimp only at H)
 have Ny566:=Za hy566;clear hy566;obtain ⟨⟨t571,t572⟩,A12,H⟩:=ob_ H
 (try dsimp only at H)
 have H':=Za H;clear H;go_enter Tryz.func83,Tryz.ntmps83
 go_wp2_with (first|((with_reducible refine abz (f:=126) rfl ?_);refine gl_ (some 27) Tryz.func126 #[.int .i64 a0, .int .u32 a1, .int .i64 a2, .int .i64 a3] ?_;(with_reducible refine (avz.calls k a0 a1 a2 a3 t553 true _ A5.out).mono ?_);rintro e w13 ⟨v555,rfl,ho0,hb⟩;refine ⟨_,rfl,?_⟩;have n_:=Zb (Za (Kd.bUz (Kd.bRz (ok':=fun k_=>(w.heap.size<=k_)) (Kd.S_N (Kd.bEz ho0)) (fun k_ hk_=>(Zt (acz bl_) hk_.2.1))) (acz bl_))) (hs_ HB hb);clear HB;obtain ⟨HO556,HB⟩:=n_;clear hb ho0;obtain ⟨Ao15,co15,eo15⟩:=Kd.clz HO556.out;subst eo15;have q14:(a2:Int)<=((t553.length:Int):Int):=Zc as_;obtain ⟨i014,hi014,_,hsz14,_⟩:=info_parts info57;have hroom14:t553.length<=co15:=(Kd.btz HO556.out).2.1;have hC14:Kd.F (Kd.slice 3 (Kd.int .i64)) _ _ Ao15 t553.length t553:=(Kd.V_at (base:=w.heap.size) (Kd.N_V HO556.out)).2.2;have hcut14:=cut_to (P:=Tryz.prog) 68 57 .i64 Tryz.underlying68 hi014 Ao15 t553.length co15 a2 (Zc as_) q14 hroom14;have hr14:=Kd.F_take (m:=(a2:Int).toNat) hC14 (by omega);have hy14:y557.length=(a2:Int).toNat:=(by rw [Ny557.out,List.length_take];omega);rw [<-Ny557.out] at hr14;rw [<-hy14] at hcut14;have HO561:=Za (show Kd.V (Kd.slice 3 (Kd.int .i64)) 57 _ w.heap.size _ (.slice Ao15 y557.length co15) y557 from Kd.V_mk (by omega) hr14);have HC561:=Za (show y557.length<=co15 from by omega);clear hr14 hC14 hroom14 hi014 hsz14;have KY14:=Za hy14;clear hy14;replace q14:=Zz q14)|((with_reducible refine abz (f:=64) rfl ?_);refine gl_ (some 38) Tryz.func64 #[.int .i64 a0, .int .u32 a1, .slice Ao15 y557.length co15] ?_;(with_reducible refine (ahz.calls k a0 a1 _ _ y557 t562 t565 _ (xd_ (Kd.cWz HO561.out).2.2) ((Kd.cWz HO561.out).2.1) A9.out).mono ?_);rintro e w16 ⟨v563,rfl,ho0,hb⟩;refine ⟨_,rfl,?_⟩;have n_:=Zb (Za (Kd.b5z (xd_ HO556.out) (Kd.cTz ho0) hb)) (Zb (Za (Kd.dqz (xd_ HO561.out) (Kd.cTz ho0) hb)) (Zb (Za (Kd.bUz (Kd.bRz (ok':=fun k_=>(w.heap.size<=k_)/\some k_≠(.slice Ao15 t553.length co15:Value).ownBlock) ho0 (fun k_ hk_=>⟨(Zt (acz bl_) hk_),(Kd.fresh' (Kd.N_lt (xd_ HO556.out)) k_ hk_)⟩)) (acz bl_))) (hs_ HB hb)));clear HO556 HO561 HB;obtain ⟨HO556,HO561,HO564,HB⟩:=n_;clear hb ho0;have q17:(a2:Int)<=((t553.length:Int):Int):=Zc as_;obtain ⟨i017,hi017,_,hsz17,_⟩:=info_parts info57;have hroom17:t553.length<=co15:=(Kd.btz HO556.out).2.1;have hC17:Kd.F (Kd.slice 3 (Kd.int .i64)) _ _ Ao15 t553.length t553:=(Kd.V_at (base:=w.heap.size) (Kd.N_V HO556.out)).2.2;have q017:(0:Int)<=(a2:Int):=Zc as_;have hcut17:=eLz (P:=Tryz.prog) 68 57 .i64 Tryz.underlying68 hi017 1 hsz17 Ao15 t553.length co15 a2 q017 q17;have hr17:=Kd.F_cut (m:=(a2:Int).toNat) (c:=co15) hC17 (by omega) hroom17;obtain ⟨A17,hA17⟩: ∃Aq_,Aq_=(if co15=(a2:Int).toNat then Ao15 else (Ao15:Option Addr).map (·.add ((a2:Int).toNat*1))):=⟨_,rfl⟩;obtain ⟨c17,hc17⟩: ∃cq_,cq_=co15 - (a2:Int).toNat:=⟨_,rfl⟩;have hy17:y566.length=t553.length - (a2:Int).toNat:=(by rw [Ny566.out,List.length_drop] <;>omega);rw [show (t553).drop (a2:Int).toNat=y566 from Ny566.out.symm] at hr17;replace hr17:Kd.F (Kd.slice 3 (Kd.int .i64)) _ _ A17 y566.length y566:=(by rw [hA17];exact hr17);rw [<-hy17, <-hA17, <-hc17] at hcut17;have HO570:=Za (show Kd.V (Kd.slice 3 (Kd.int .i64)) 57 _ w.heap.size _ (.slice A17 y566.length c17) y566 from Kd.V_mk (by rw [hy17,hc17];exact Nat.sub_le_sub_right hroom17 _) hr17);have HC570:=Za (show y566.length<=c17 from by rw [hy17,hc17];exact Nat.sub_le_sub_right hroom17 _);clear hr17 hC17 hroom17 hi017 hsz17 hc17;have KY17:=Za hy17;have KA17:=Za hA17;clear hy17 hA17;replace q17:=Zz q17;obtain ⟨Ao18,co18,eo18⟩:=Kd.clz HO564.out;subst eo18)|((with_reducible refine abz (f:=127) rfl ?_);refine gl_ (some 48) Tryz.func127 #[.int .i64 a0, .int .u32 a1, .slice A17 y566.length c17, .slice Ao18 t562.length co18] ?_;(with_reducible refine (akz.calls k a0 a1 _ _ y566 _ _ t562 t571 t572 _ (xd_ (Kd.cWz HO570.out).2.2) ((Kd.cWz HO570.out).2.1) (xd_ (Kd.btz HO564.out).2.2) ((Kd.btz HO564.out).2.1) A12.out).mono ?_);rintro e w19 ⟨v573,rfl,ho0,hb⟩;refine ⟨_,rfl,?_⟩;have n_:=Zb (Za (Kd.b5z (xd_ HO556.out) (Kd.dhz ho0) hb)) (Zb (Za (Kd.dqz (xd_ HO561.out) (Kd.dhz ho0) hb)) (Zb (Za (Kd.b5z (xd_ HO564.out) (Kd.dhz ho0) hb)) (Zb (Za (Kd.dqz (xd_ HO570.out) (Kd.dhz ho0) hb)) (Zb (Za (Kd.bUz (Kd.bRz (ok':=fun k_=>(w.heap.size<=k_)/\some k_≠(.slice Ao15 t553.length co15:Value).ownBlock/\some k_≠(.slice Ao18 t562.length co18:Value).ownBlock) (Kd.S_N (Kd.bEz ho0)) (fun k_ hk_=>⟨(Zt (acz bl_) hk_.2.1),(Kd.fresh' (Kd.N_lt (xd_ HO556.out)) k_ hk_.2.1),(Kd.fresh' (Kd.N_lt (xd_ HO564.out)) k_ hk_.2.1)⟩)) (acz bl_))) (hs_ HB hb)))));clear HO556 HO561 HO564 HO570 HB;obtain ⟨HO556,HO561,HO564,HO570,HO574,HB⟩:=n_;clear hb ho0))
 go_loopg [16,17] k (fun kq v16 v17 w'=> ∃(x16_1:List (List Int)) (x17_1:Int),v17= .int .i64 x17_1/\Aside0 (aaz.l0 kq a0 a1 a2 a3 t571 x16_1 x17_1=some (r1,r2))/\Aside0 (kq<=k)/\Aside0 (Kd.N (Kd.slice 3 (Kd.int .i64)) 57 w' w.heap.size (fun k_=>(w.heap.size<=k_)/\some k_≠(v16:Value).ownBlock) v573 t571)/\Aside0 (Kd.N (Kd.slice 3 (Kd.int .i64)) 57 w' w.heap.size (fun k_=>(w.heap.size<=k_)/\some k_≠(v573:Value).ownBlock) v16 x16_1)/\Aside0 (Below w.heap.size w w'))
 case atStart=>exact ⟨(([] :List (List Int))),(0),sd_,H',⟨Zv _⟩,⟨nm_ HO574⟩,⟨nl_⟩,⟨bl_⟩⟩
 clear H'
 try clear c1
 try clear q1
 try clear p2
 try clear c6
 try clear c7
 try clear c7b0
 try clear c7b1
 try clear c8
 try clear c8b0
 try clear c8b1
 try clear c10
 try clear c10b0
 try clear c11
 try clear c11b0
 try clear c12
 try clear q14
 try clear c17
 try clear q17
 try clear q017
 try clear q14
 try clear q17
 obtain ⟨x16_1,x17_1,rfl,HA,HK1,HO_14,HO_16,HB⟩:=hrel;rcases gk with _|k1
 ·exact Yf HA.out (by simp [aaz.l0])
 have H:=HA.out;clear HA;simp only [aaz.l0] at H;by_cases c20:x17_1<a3
 rotate_left
 ·rw [Yb c20] at H;have c20b0:=Ze c20;clear c20;simp only [Zx,Zy] at H;obtain ⟨rfl,rfl⟩:=H;go_wp2;go_ret2;exact ⟨_,er_,nm_ HO_16,bl_⟩
 rw [Ya c20] at H;have c20b0:=Zd c20;clear c20;have H':=Za H;clear H;go_wp2
 go_loopg [18,19] k1 (fun kq v18 v19 w'=> ∃(x18_2:List Int) (x19_2:Int),v19= .int .i64 x19_2/\Aside0 (aaz.l1 kq a0 a1 a2 a3 t571 x16_1 x17_1 x18_2 x19_2=some (r1,r2))/\Aside0 (kq<=k1)/\Aside0 (Kd.N (Kd.slice 3 (Kd.int .i64)) 57 w' w.heap.size (fun k_=>(w.heap.size<=k_)/\some k_≠(u16:Value).ownBlock/\some k_≠(v18:Value).ownBlock) v573 t571)/\Aside0 (Kd.N (Kd.slice 3 (Kd.int .i64)) 57 w' w.heap.size (fun k_=>(w.heap.size<=k_)/\some k_≠(v573:Value).ownBlock/\some k_≠(v18:Value).ownBlock) u16 x16_1)/\Aside0 (Kd.R (Kd.int .i64) 3 w' w.heap.size (fun k_=>(w.heap.size<=k_)) v18 x18_2)/\Aside0 (Below w.heap.size w w'))
 case atStart=>exact ⟨(([] :List Int)),(0),sd_,H',⟨Zv _⟩,⟨nm_ HO_14⟩,⟨nm_ HO_16⟩,⟨nl_⟩,⟨bl_⟩⟩
 clear H'
 try clear c1
 try clear q1
 try clear c2
 try clear p2
 try clear c6
 try clear c7
 try clear c7b0
 try clear c7b1
 try clear c8
 try clear c8b0
 try clear c8b1
 try clear c10
 try clear c10b0
 try clear c11
 try clear c11b0
 try clear c12
 try clear q14
 try clear c17
 try clear q17
 try clear c20
 try clear c20b0
 try clear p2
 try clear q017
 try clear q1
 try clear q14
 try clear q17
 obtain ⟨x18_2,x19_2,rfl,HA,HK2,HO_14,HO_16,HO_18,HB⟩:=hrel;rcases gk with _|k2
 ·exact Yf HA.out (by simp [aaz.l1])
 have H:=HA.out;clear HA;simp only [aaz.l1] at H;by_cases c21:x19_2<a2
 ·rw [Ya c21] at H;have c21b0:=Zd c21;clear c21;by_cases c22:0<=x17_1
  rotate_left
  ·rw [Yb c22] at H;exact Yf H (by simp)
  rw [Ya c22] at H;have c22b0:=Zd c22;clear c22;by_cases c23:x17_1<(t571.length:Int)
  rotate_left
  ·rw [Yb c23] at H;exact Yf H (by simp)
  rw [Ya c23] at H;have c23b0:=Zd c23;clear c23;by_cases c24:0<=x19_2
  rotate_left
  ·rw [Yb c24] at H;exact Yf H (by simp)
  rw [Ya c24] at H;have c24b0:=Zd c24;clear c24;by_cases c25:x19_2<((rd_L4 t571 x17_1).length:Int)
  rotate_left
  ·rw [Yb c25] at H;exact Yf H (by simp)
  rw [Ya c25] at H;have c25b0:=Zd c25;clear c25;by_cases c26:0<(t571.length:Int)
  rotate_left
  ·rw [Yb c26] at H;exact Yf H (by simp)
  rw [Ya c26] at H;have c26b0:=Zd c26;have c26b1:decide (0<t571.length)=true:=Zd (by omega);clear c26;by_cases c27:x19_2<((rd_L4 t571 0).length:Int)
  rotate_left
  ·rw [Yb c27] at H;exact Yf H (by simp)
  rw [Ya c27] at H;have c27b0:=Zd c27;clear c27;obtain ⟨t579,A28,H⟩:=ob_ H
  (try dsimp only at H)
  by_cases c29:x18_2.length<17592186044416
  rotate_left
  ·rw [Yb c29] at H;exact Yf H (by simp)
  rw [Ya c29] at H;have LMc29:=Za c29;clear c29;obtain ⟨y580,hy580⟩: ∃y_:List Int,y_=(x18_2++ [t579]):=⟨_,rfl⟩
  first|rw [Zl, <-hy580] at H|rw [<-hy580] at H
  (try dsimp only at H)
  have Ny580:=Za hy580;clear hy580;have H':=Za H;clear H
  try go_wp2
  have n_:=Zb (Za (Kd.N_drew HO_14.out)) (Zb (Za (Kd.N_drew HO_16.out)) (Zb (Za (Kd.cJz HO_18.out)) (Za (cnz HB.out))));clear HO_14 HO_16 HO_18 HB;obtain ⟨HO_14,HO_16,HO_18,HB⟩:=n_;obtain ⟨Ao31,co31,eo31⟩:=Kd.clz HO_14.out
  (first|subst eo31|(injection eo31 with f1_ f2_ f3_;have f4_:=f1_.symm;have f5_:=f3_.symm;clear f1_ f2_ f3_;subst f4_;subst f5_))
  have p575:0<=(x17_1:Int):=Zc as_;have q575:x17_1<(t571.length:Int):=Zc as_;obtain ⟨ad575,A575_0,c575_0,e575,hx575_0,hl575_0,hi575_0⟩:=at_L4 (Kd.btz HO_14.out).2.2 x17_1 p575 q575;cases e575
  obtain ⟨ce575,hce575,hMe575,hcc575⟩:=Kd.N_get HO_14.out [] x17_1 p575 (by first|exact q575|exact Zc as_|(have e_:=(Kd.btz HO_14.out).1;omega));obtain ⟨ua575_0,uc575_0,rfl,ul575_0,ge575_0⟩:=Kd.cEz hMe575;have hv575_0:=hcc575 0 _ rfl;rw [Nat.add_zero,show ((Kd.slice 3 (Kd.int .i64))).sz=1 from rfl,Nat.mul_one] at hv575_0;replace hv575_0:=Zn (hv575_0.symm.trans hx575_0);injection hv575_0 with hva_ hvn_ hvc_
  rw [hva_] at ge575_0;rw [hvc_] at ul575_0;have HL575_0:=Za (show Kd.V (Kd.int .i64) 3 _ w.heap.size _ _ (rd_L4 t571 x17_1) from Kd.V_mk ul575_0 ge575_0);clear hva_ hvn_ hvc_ ge575_0 ul575_0;clear hcc575 hce575;have HR575_0:=Za hi575_0;have HC575_0:=Za hl575_0;clear hi575_0 hl575_0;replace p575:=Zz p575;replace q575:=Zz q575;have p576:0<=(x19_2:Int):=Zc as_;have q576:x19_2<((rd_L4 t571 x17_1).length:Int):=Zc as_;obtain ⟨ad576,e576,hx576_0⟩:=Kd.bqz (by repeat (first|(with_reducible exact HR575_0.out)|(with_reducible refine Kd.b2z ?_ _)|(with_reducible refine Kd.bzz ?_ _)|(with_reducible refine Kd.ckz ?_)|exact HR575_0.out)) x19_2 p576 q576;cases e576
  replace p576:=Zz p576;replace q576:=Zz q576;have p577:0<=(0:Int):=(by omega);have q577:0<(t571.length:Int):=Zc as_;obtain ⟨ad577,A577_0,c577_0,e577,hx577_0,hl577_0,hi577_0⟩:=at_L4 (Kd.btz HO_14.out).2.2 0 p577 q577;obtain rfl:ad575=ad577:=(by injection e577);obtain ⟨ce577,hce577,hMe577,hcc577⟩:=Kd.N_get HO_14.out [] 0 p577 (by first|exact q577|exact Zc as_|(have e_:=(Kd.btz HO_14.out).1;omega));obtain ⟨ua577_0,uc577_0,rfl,ul577_0,ge577_0⟩:=Kd.cEz hMe577;have hv577_0:=hcc577 0 _ rfl;rw [Nat.add_zero,show ((Kd.slice 3 (Kd.int .i64))).sz=1 from rfl,Nat.mul_one] at hv577_0;replace hv577_0:=Zn (hv577_0.symm.trans hx577_0);injection hv577_0 with hva_ hvn_ hvc_
  rw [hva_] at ge577_0;rw [hvc_] at ul577_0;have HL577_0:=Za (show Kd.V (Kd.int .i64) 3 _ w.heap.size _ _ (rd_L4 t571 0) from Kd.V_mk ul577_0 ge577_0);clear hva_ hvn_ hvc_ ge577_0 ul577_0;clear hcc577 hce577;have qi577:(0<t571.length)=True:=Zz (by omega)
  (try rw [show ((0:Int)).toNat=0 from rfl] at hx577_0)
  (try rw [Addr.add_zero'] at hx577_0)
  have HR577_0:=Za hi577_0;have HC577_0:=Za hl577_0;clear hi577_0 hl577_0;replace p577:=Zz p577;replace q577:=Zz q577;have p578:0<=(x19_2:Int):=Zc as_;have q578:x19_2<((rd_L4 t571 0).length:Int):=Zc as_;obtain ⟨ad578,e578,hx578_0⟩:=Kd.bqz (by repeat (first|(with_reducible exact HR577_0.out)|(with_reducible refine Kd.b2z ?_ _)|(with_reducible refine Kd.bzz ?_ _)|(with_reducible refine Kd.ckz ?_)|exact HR577_0.out)) x19_2 p578 q578;cases e578
  replace p578:=Zz p578;replace q578:=Zz q578;refine bXz (n:=20) (S:=fun w'=>w'.cell? (ad575.add (x17_1).toNat)=some (.slice (some ad576) (rd_L4 t571 x17_1).length c575_0)/\w'.cell? (ad576.add (x19_2).toNat)=some (.int .i64 (rd (rd_L4 t571 x17_1) x19_2))/\w'.cell? ad575=some (.slice (some ad578) (rd_L4 t571 0).length c577_0)/\w'.cell? (ad578.add (x19_2).toNat)=some (.int .i64 (rd (rd_L4 t571 0) x19_2))) (ds:= [17,18]) (bA 20 0) kr_ rfl rfl ⟨hx575_0,hx576_0,hx577_0,hx578_0⟩ (fun hHeld=> ?_);refine cUz aaz.tab14 aaz.bits14 (fun HT_ HW_=> ?_);generalize wr.drew=w30 at HO_14 HO_16 HO_18 HB HL575_0 HL577_0 HR575_0 HR577_0 hx575_0 hx576_0 hx577_0 hx578_0 hHeld|-;refine pv_ 0 61 1 HT_ ?_;refine pv_ 1 62 3 HT_ ?_;refine pv_ 2 63 7 HT_ ?_;refine pv_ 3 64 15 HT_ ?_;refine pv_ 4 65 31 HT_ ?_;refine pv_ 5 66 63 HT_ ?_;refine pv_ 7 68 191 HT_ ?_;refine pv_ 10 71 1215 HT_ ?_;refine pv_ 11 72 3263 HT_ ?_;refine pv_ 13 74 11455 HT_ ?_
  refine tw_ 6 67 11519 HT_ HW_ hHeld ?_;refine pv_ 8 69 11775 HT_ ?_;refine tw_ 9 70 12287 HT_ HW_ hHeld ?_;refine tw_ 12 73 16383 HT_ HW_ hHeld ?_;refine pv_ 14 75 32767 HT_ ?_;refine tw_ 15 76 65535 HT_ HW_ hHeld ?_;refine one_ (i:=16) (N:=some 77) (bA 20 131071) rfl rfl (cZz HT_.out kr_) (by decide) (fun K hK=> ?_);refine goes_ Tryz.func128 kr_ rfl #[.int .i64 a0, .int .u32 a1, .int .i64 (rd (rd_L4 t571 x17_1) x19_2), .int .i64 (rd (rd_L4 t571 0) x19_2)] (by rfl) rfl rfl ar_ ?_
  with_reducible refine (a8z.calls k2 a0 a1 (rd (rd_L4 t571 x17_1) x19_2) (rd (rd_L4 t571 0) x19_2) t579 _ A28.out).mono ?_
  rintro e w' ⟨rfl,⟨nd,rfl⟩⟩;refine ⟨_,rfl,?_⟩;refine hK.out _ _ ⟨hHeld.1,hHeld.2.1,hHeld.2.2.1,hHeld.2.2.2⟩ (fun hHeld=> ?_);clear hK K;refine norm_ (a':= ?_) ?_ ?_;rotate_left
  ·show Act.put _ (some 77) _=_;simp only [Act.put,Zg,Zh,Zi,i64_w,i32_w];rfl
  refine last_ (i:=17) (N:=some 78) (bA 20 262143) rfl rfl (cZz HT_.out kr_) (by decide) (fun K hK=> ?_);refine ciz (w1:= ?_) (v:= ?_) (by rfl) rfl ?_ ?_;rotate_left 2
  ·go_simp;constructor
   ·rfl
   ·rfl
  refine hK.out _ _ ?_;clear hK K;refine norm_ (a':= ?_) ?_ ?_;rotate_left
  ·show Act.put _ (some 78) _=_;simp only [Act.put,Zg,Zh,Zi,i64_w,i32_w];rfl
  refine last_ (i:=18) (N:=some 79) (bA 20 524287) rfl rfl (cZz HT_.out kr_) (by decide) (fun K hK=> ?_);refine Kd.dmz (Kd.int .i64) (w0:=w) w.heap.size (by rfl) (.tmp 61) (.tmp 78) 57 3 (.int .i64 0) 8 rfl Tryz.underlying57 info3 rfl (by decide) (by omega) u18 x18_2 t579 [.int .i64 t579] (fun k_=>(w.heap.size<=k_)) (fun _=>False) rfl rfl ?aP (fun _ hk=>hk.elim) ?aF ?aO ?aB ?aS ?aL ?_
  (case aP=>exact rfl)
  (case aB=>exact bl_)
  (case aF=>exact (fun k_ hk=>(Zt (acz bl_) hk)))
  (case aO=>exact (xd_ HO_18.out))
  (case aS=>exact (acz bl_))
  (case aL=>have:=LMc29.out;omega)
  intro v581 w32 ho hb hg hat;rw [<-Ny580.out] at ho;have n_:=Zb (Za (Kd.caz (ok:=(fun k_=>(w.heap.size<=k_)/\some k_≠(u16:Value).ownBlock)) (nm_ HO_14) hg hat)) (Zb (Za (Kd.caz (ok:=(fun k_=>(w.heap.size<=k_)/\some k_≠(.slice (some ad575) t571.length co31:Value).ownBlock)) (nm_ HO_16) hg hat)) (Zb (Za (Kd.c6z (ok:=(fun k_=>(w.heap.size<=k_)/\some k_≠(.slice (some ad575) t571.length co31:Value).ownBlock/\some k_≠(u16:Value).ownBlock)) (by (with_reducible repeat (first|apply Kd.dez|apply Kd.dfz|apply Kd.dkz));exact Kd.djz HL575_0.out (fun _ hk=>⟨⟨hk.1.1,⟨hk.2,hk.1.2.1⟩⟩,hk.1.2.2⟩)) hg hat)) (Zb (Za (Kd.c6z (ok:=(fun k_=>(w.heap.size<=k_)/\some k_≠(.slice (some ad575) t571.length co31:Value).ownBlock/\some k_≠(u16:Value).ownBlock)) (by (with_reducible repeat (first|apply Kd.dez|apply Kd.dfz|apply Kd.dkz));exact Kd.djz HL577_0.out (fun _ hk=>⟨⟨hk.1.1,⟨hk.2,hk.1.2.1⟩⟩,hk.1.2.2⟩)) hg hat)) (Zb (Za (hb)) (Za (ho))))))
  clear HO_14 HO_16 HL575_0 HL577_0 HB HO_18;obtain ⟨HO_14,HO_16,HL575_0,HL577_0,HB,HO582⟩:=n_;clear ho hb hg hat;refine hK.out _ _ ?_;clear hK K;refine norm_ (a':= ?_) ?_ ?_;rotate_left
  ·show Act.put _ (some 79) _=_;simp only [Act.put,Zg,Zh,Zi,i64_w,i32_w];rfl
  refine pv_ 19 18 1048575 HT_ ?_;refine done_ (dyz HT_.out kr_) ?_
  try go_wp2
  go_roundg k2
  case measure=>have:=HK1.out;have:=HK2.out;omega
  case rel=>exact ⟨(y580),(wrap64 (x19_2+1)),sd_,H',⟨by have:=HK1.out;have:=HK2.out;omega⟩,⟨nm_ HO_14⟩,⟨nm_ HO_16⟩,⟨xd_ HO582.out⟩,⟨bl_⟩⟩
 ·rw [Yb c21] at H;have c21b0:=Ze c21;clear c21;have H':=Za H;clear H;go_wp2
  go_loopg [20,21] k2 (fun kq v20 v21 w'=> ∃(x20_3:List Int) (x21_3:Int),v21= .int .i64 x21_3/\Aside0 (aaz.l2 kq a0 a1 a2 a3 t571 x16_1 x17_1 x18_2 x20_3 x21_3=some (r1,r2))/\Aside0 (kq<=k2)/\Aside0 (Kd.N (Kd.slice 3 (Kd.int .i64)) 57 w' w.heap.size (fun k_=>(w.heap.size<=k_)/\some k_≠(u16:Value).ownBlock/\some k_≠(u18:Value).ownBlock/\some k_≠(v20:Value).ownBlock) v573 t571)/\Aside0 (Kd.N (Kd.slice 3 (Kd.int .i64)) 57 w' w.heap.size (fun k_=>(w.heap.size<=k_)/\some k_≠(v573:Value).ownBlock/\some k_≠(u18:Value).ownBlock/\some k_≠(v20:Value).ownBlock) u16 x16_1)/\Aside0 (Kd.R (Kd.int .i64) 3 w' w.heap.size (fun k_=>(w.heap.size<=k_)/\some k_≠(v20:Value).ownBlock) u18 x18_2)/\Aside0 (Kd.R (Kd.int .i64) 3 w' w.heap.size (fun k_=>(w.heap.size<=k_)/\some k_≠(u18:Value).ownBlock) v20 x20_3)/\Aside0 (Below w.heap.size w w'))
  case atStart=>exact ⟨(([] :List Int)),(0),sd_,H',⟨Zv _⟩,⟨nm_ HO_14⟩,⟨nm_ HO_16⟩,⟨rm_ HO_18⟩,⟨nl_⟩,⟨bl_⟩⟩
  clear H'
  try clear c1
  try clear q1
  try clear c2
  try clear p2
  try clear c5
  try clear p5
  try clear q5
  try clear hx5
  try clear qi5
  try clear c6
  try clear p6
  try clear c7
  try clear c7b0
  try clear c7b1
  try clear c8
  try clear c8b0
  try clear c8b1
  try clear c10
  try clear c10b0
  try clear c11
  try clear c11b0
  try clear c12
  try clear q14
  try clear c17
  try clear q17
  try clear c20
  try clear c20b0
  try clear c21
  try clear c21b0
  try clear c22
  try clear c22b0
  try clear c23
  try clear c23b0
  try clear c24
  try clear c24b0
  try clear c25
  try clear c25b0
  try clear c26
  try clear c26b0
  try clear c26b1
  try clear c27
  try clear c27b0
  try clear c29
  try clear hx575_0
  try clear hx576_0
  try clear hx577_0
  try clear hx578_0
  try clear p2
  try clear p575
  try clear p576
  try clear p577
  try clear p578
  try clear q017
  try clear q1
  try clear q14
  try clear q17
  try clear q575
  try clear q576
  try clear q577
  try clear q578
  obtain ⟨x20_3,x21_3,rfl,HA,HK3,HO_14,HO_16,HO_18,HO_20,HB⟩:=hrel;rcases gk with _|k3
  ·exact Yf HA.out (by simp [aaz.l2])
  have H:=HA.out;clear HA;simp only [aaz.l2] at H;by_cases c33:x21_3<a2
  rotate_left
  ·rw [Yb c33] at H;have c33b0:=Ze c33;clear c33;by_cases c42:x16_1.length<5864062014805
   rotate_left
   ·rw [Yb c42] at H;exact Yf H (by simp)
   rw [Ya c42] at H;have LMc42:=Za c42;clear c42;obtain ⟨y589,hy589⟩: ∃y_:List (List Int),y_=(x16_1++ [x20_3]):=⟨_,rfl⟩
   first|rw [Zl, <-hy589] at H|rw [<-hy589] at H
   (try dsimp only at H)
   have Ny589:=Za hy589;clear hy589;have H':=Za H;clear H;obtain ⟨Ao44,co44,eo44⟩:=Kd.a7z HO_20.out;subst eo44
   go_wp2_with (first|((with_reducible refine anz (b:= .append) (xs:= #[.tmp 98, .tmp 100]) rfl ?_);at_builtin;refine Kd.N_append (Kd.slice 3 (Kd.int .i64)) (w0:=w) w.heap.size rfl (.tmp 98) (.tmp 100) 68 57 (.slice none 0 0) 24 rfl Tryz.underlying68 info57 rfl (by decide) (by omega) u16 x16_1 x20_3 [.slice Ao44 x20_3.length co44] (fun k_=>(w.heap.size<=k_)/\some k_≠(v573:Value).ownBlock/\some k_≠(u18:Value).ownBlock) (fun k_=>((fun k_=>(w.heap.size<=k_)/\some k_≠(v573:Value).ownBlock/\some k_≠(u18:Value).ownBlock)) k_/\some k_≠(u16:Value).ownBlock) rfl rfl ?aP (fun _ hk=>hk) ?aF ?aO ?aB ?aS ?aL ?_;(case aP=>exact (Kd.dWz (Kd.aSz (Kd.aQz (ok':=(fun k_=>((fun k_=>(w.heap.size<=k_)/\some k_≠(v573:Value).ownBlock/\some k_≠(u18:Value).ownBlock)) k_/\some k_≠(u16:Value).ownBlock)) (Kd.bpz (Kd.bpz (HO_20.out) (Kd.ddz HO_14.out) (by decide)) (Kd.ddz HO_16.out) (by decide)) (fun k_ hk=>⟨⟨hk.1.1.1,⟨hk.1.2,hk.1.1.2⟩⟩,hk.2⟩))).2.1 (Kd.R_F (Kd.aQz (ok':=(fun k_=>((fun k_=>(w.heap.size<=k_)/\some k_≠(v573:Value).ownBlock/\some k_≠(u18:Value).ownBlock)) k_/\some k_≠(u16:Value).ownBlock)) (Kd.bpz (Kd.bpz (HO_20.out) (Kd.ddz HO_14.out) (by decide)) (Kd.ddz HO_16.out) (by decide)) (fun k_ hk=>⟨⟨hk.1.1.1,⟨hk.1.2,hk.1.1.2⟩⟩,hk.2⟩)))));(case aB=>exact bl_);(case aF=>exact (fun k_ hk=>⟨(Zt (acz bl_) hk),Kd.fresh' (Kd.N_lt (xd_ HO_14.out)) k_ hk,Kd.fresh' (Kd.R_lt (xd_ HO_18.out)) k_ hk⟩));(case aO=>exact (nm_ HO_16));(case aS=>exact (acz bl_));(case aL=>have:=LMc42.out;omega);intro v590 w43 ho hb hg hat;rw [<-Ny589.out] at ho;have n_:=Zb (Za (Kd.caz (ok:=(fun k_=>(w.heap.size<=k_)/\some k_≠(u18:Value).ownBlock/\some k_≠(.slice Ao44 x20_3.length co44:Value).ownBlock)) (nm_ HO_14) hg hat)) (Zb (Za (Kd.R_over' (xd_ HO_18.out) (Kd.ddz (xd_ HO_16.out)) (by decide) hg)) (Zb (Za (hb)) (Za (ho))));clear HO_14 HO_18 HB HO_16 HO_20;obtain ⟨HO_14,HO_18,HB,HO591⟩:=n_;clear ho hb hg hat))
   go_roundg k3
   case measure=>have:=HK1.out;have:=HK2.out;have:=HK3.out;omega
   case rel=>exact ⟨(y589),(wrap64 (x17_1+1)),sd_,H',⟨by have:=HK1.out;have:=HK2.out;have:=HK3.out;omega⟩,⟨nm_ HO_14⟩,⟨nm_ HO591⟩,⟨bl_⟩⟩
  rw [Ya c33] at H;have c33b0:=Zd c33;clear c33;by_cases c34:0<=x21_3
  rotate_left
  ·rw [Yb c34] at H;exact Yf H (by simp)
  rw [Ya c34] at H;have c34b0:=Zd c34;clear c34;by_cases c35:x21_3<(x18_2.length:Int)
  rotate_left
  ·rw [Yb c35] at H;exact Yf H (by simp)
  rw [Ya c35] at H;have c35b0:=Zd c35;clear c35;by_cases c36:0<(x18_2.length:Int)
  rotate_left
  ·rw [Yb c36] at H;exact Yf H (by simp)
  rw [Ya c36] at H;have c36b0:=Zd c36;have c36b1:decide (0<x18_2.length)=true:=Zd (by omega);clear c36;obtain ⟨t585,A37,H⟩:=ob_ H
  (try dsimp only at H)
  by_cases c38:x20_3.length<17592186044416
  rotate_left
  ·rw [Yb c38] at H;exact Yf H (by simp)
  rw [Ya c38] at H;have LMc38:=Za c38;clear c38;obtain ⟨y586,hy586⟩: ∃y_:List Int,y_=(x20_3++ [t585]):=⟨_,rfl⟩
  first|rw [Zl, <-hy586] at H|rw [<-hy586] at H
  (try dsimp only at H)
  have Ny586:=Za hy586;clear hy586;have H':=Za H;clear H
  try go_wp2
  have n_:=Zb (Za (Kd.N_drew HO_14.out)) (Zb (Za (Kd.N_drew HO_16.out)) (Zb (Za (Kd.cJz HO_18.out)) (Zb (Za (Kd.cJz HO_20.out)) (Za (cnz HB.out)))));clear HO_14 HO_16 HO_18 HO_20 HB;obtain ⟨HO_14,HO_16,HO_18,HO_20,HB⟩:=n_;obtain ⟨Ao40,co40,eo40⟩:=Kd.a7z HO_18.out
  (first|subst eo40|(injection eo40 with f1_ f2_ f3_;have f4_:=f1_.symm;have f5_:=f3_.symm;clear f1_ f2_ f3_;subst f4_;subst f5_))
  have p583:0<=(x21_3:Int):=Zc as_;have q583:x21_3<(x18_2.length:Int):=Zc as_;obtain ⟨ad583,e583,hx583_0⟩:=Kd.bqz (Kd.aSz HO_18.out).2.2 x21_3 p583 q583;cases e583
  replace p583:=Zz p583;replace q583:=Zz q583;have p584:0<=(0:Int):=(by omega);have q584:0<(x18_2.length:Int):=Zc as_;obtain ⟨ad584,e584,hx584_0⟩:=Kd.bqz (Kd.aSz HO_18.out).2.2 0 p584 q584;obtain rfl:ad583=ad584:=(by injection e584);have qi584:(0<x18_2.length)=True:=Zz (by omega)
  (try rw [show ((0:Int)).toNat=0 from rfl] at hx584_0)
  (try rw [Addr.add_zero'] at hx584_0)
  replace p584:=Zz p584;replace q584:=Zz q584;refine bXz (n:=14) (S:=fun w'=>w'.cell? (ad583.add (x21_3).toNat)=some (.int .i64 (rd x18_2 x21_3))/\w'.cell? ad583=some (.int .i64 (rd x18_2 0))) (ds:= [11,12]) (bA 14 0) kr_ rfl rfl ⟨hx583_0,hx584_0⟩ (fun hHeld=> ?_);refine cUz aaz.tab19 aaz.bits19 (fun HT_ HW_=> ?_);generalize wr.drew=w39 at HO_14 HO_16 HO_18 HO_20 HB hx583_0 hx584_0 hHeld|-;refine pv_ 0 85 1 HT_ ?_;refine pv_ 1 86 3 HT_ ?_;refine pv_ 2 87 7 HT_ ?_;refine pv_ 3 88 15 HT_ ?_;refine pv_ 4 89 31 HT_ ?_;refine pv_ 5 90 63 HT_ ?_;refine pv_ 7 92 191 HT_ ?_;refine pv_ 8 93 447 HT_ ?_;refine tw_ 6 91 511 HT_ HW_ hHeld ?_;refine tw_ 9 94 1023 HT_ HW_ hHeld ?_;refine one_ (i:=10) (N:=some 95) (bA 14 2047) rfl rfl (cZz HT_.out kr_) (by decide) (fun K hK=> ?_);refine goes_ Tryz.func128 kr_ rfl #[.int .i64 a0, .int .u32 a1, .int .i64 (rd x18_2 x21_3), .int .i64 (rd x18_2 0)] (by rfl) rfl rfl ar_ ?_
  with_reducible refine (a8z.calls k3 a0 a1 (rd x18_2 x21_3) (rd x18_2 0) t585 _ A37.out).mono ?_
  rintro e w' ⟨rfl,⟨nd,rfl⟩⟩;refine ⟨_,rfl,?_⟩;refine hK.out _ _ ⟨hHeld.1,hHeld.2⟩ (fun hHeld=> ?_);clear hK K;refine norm_ (a':= ?_) ?_ ?_;rotate_left
  ·show Act.put _ (some 95) _=_;simp only [Act.put,Zg,Zh,Zi,i64_w,i32_w];rfl
  refine last_ (i:=11) (N:=some 96) (bA 14 4095) rfl rfl (cZz HT_.out kr_) (by decide) (fun K hK=> ?_);refine ciz (w1:= ?_) (v:= ?_) (by rfl) rfl ?_ ?_;rotate_left 2
  ·go_simp;constructor
   ·rfl
   ·rfl
  refine hK.out _ _ ?_;clear hK K;refine norm_ (a':= ?_) ?_ ?_;rotate_left
  ·show Act.put _ (some 96) _=_;simp only [Act.put,Zg,Zh,Zi,i64_w,i32_w];rfl
  refine last_ (i:=12) (N:=some 97) (bA 14 8191) rfl rfl (cZz HT_.out kr_) (by decide) (fun K hK=> ?_);refine Kd.dmz (Kd.int .i64) (w0:=w) w.heap.size (by rfl) (.tmp 85) (.tmp 96) 57 3 (.int .i64 0) 8 rfl Tryz.underlying57 info3 rfl (by decide) (by omega) u20 x20_3 t585 [.int .i64 t585] (fun k_=>(w.heap.size<=k_)/\some k_≠(.slice (some ad583) x18_2.length co40:Value).ownBlock) (fun _=>False) rfl rfl ?aP (fun _ hk=>hk.elim) ?aF ?aO ?aB ?aS ?aL ?_
  (case aP=>exact rfl)
  (case aB=>exact bl_)
  (case aF=>exact (fun k_ hk=>⟨(Zt (acz bl_) hk),Kd.fresh' (Kd.R_lt (xd_ HO_18.out)) k_ hk⟩))
  (case aO=>exact (xd_ HO_20.out))
  (case aS=>exact (acz bl_))
  (case aL=>have:=LMc38.out;omega)
  intro v587 w41 ho hb hg hat;rw [<-Ny586.out] at ho;have n_:=Zb (Za (Kd.caz (ok:=(fun k_=>(w.heap.size<=k_)/\some k_≠(u16:Value).ownBlock/\some k_≠(.slice (some ad583) x18_2.length co40:Value).ownBlock)) (nm_ HO_14) hg hat)) (Zb (Za (Kd.caz (ok:=(fun k_=>(w.heap.size<=k_)/\some k_≠(v573:Value).ownBlock/\some k_≠(.slice (some ad583) x18_2.length co40:Value).ownBlock)) (nm_ HO_16) hg hat)) (Zb (Za (Kd.dLz (ok:=(fun k_=>(w.heap.size<=k_))) (xd_ HO_18.out) hg hat)) (Zb (Za (hb)) (Za (ho)))));clear HO_14 HO_16 HO_18 HB HO_20;obtain ⟨HO_14,HO_16,HO_18,HB,HO588⟩:=n_;clear ho hb hg hat;refine hK.out _ _ ?_;clear hK K;refine norm_ (a':= ?_) ?_ ?_;rotate_left
  ·show Act.put _ (some 97) _=_;simp only [Act.put,Zg,Zh,Zi,i64_w,i32_w];rfl
  refine pv_ 13 20 16383 HT_ ?_;refine done_ (dyz HT_.out kr_) ?_
  try go_wp2
  go_roundg k3
  case measure=>have:=HK1.out;have:=HK2.out;have:=HK3.out;omega
  case rel=>exact ⟨(y586),(wrap64 (x21_3+1)),sd_,H',⟨by have:=HK1.out;have:=HK2.out;have:=HK3.out;omega⟩,⟨nm_ HO_14⟩,⟨nm_ HO_16⟩,⟨xd_ HO_18.out⟩,⟨xd_ HO588.out⟩,⟨bl_⟩⟩
end Go.Proofs.Xc
end
