-- Joined texts of this work (wip/tools/bundle.py).
import Derived.Laws.EntriesVeiled
import Derived.Test.YtpdakdcmahlghaaGreatBReconUpdates16
set_option maxHeartbeats 8000000
set_option maxRecDepth 100000
set_option linter.unusedVariables false
set_option linter.unusedSimpArgs false
section
namespace Go.Proofs.Xc
open Go.RowKit Go.Proofs.Pw Go.Proofs.Pl Go.Proofs.Pm
attribute [local go_sem] a7z a8z bjz bkz aZz a0z a9z baz
def aDz.f (a0_0:Int) (a0_1:Int) (a0_2:Int):Option (Bool):=(bmz.f a0_0).bind fun bt102=>(if bt102.2.2.2.2.2=true then (if a0_1>=1 then (if a0_1<=8 then (if a0_2>=1 then (some (decide (a0_2<=bt102.2.2.2.2.1))) else (some false)) else (some false)) else (some false)) else (some false))
theorem aDz.calls (a0_0:Int) (a0_1:Int) (a0_2:Int) (r:Bool) (w:World) (h:aDz.f a0_0 a0_1 a0_2=some r):
 Calls Tryz.prog 41 #[.agg #[.int .i64 a0_0, .int .i64 a0_1, .int .i64 a0_2]] w fun e w'=>e= .returned (.bool r)/\Below w.heap.size w w':=by
 have hu23:=Tryz.underlying23;have hu109:=Tryz.underlying109;have HB:=Za (Zw w.heap.size w);have H:=h;clear h;unfold aDz.f at H;obtain ⟨⟨t102,t103,t104,t105,t106,t107⟩,A2,H⟩:=ob_ H
 (try dsimp only at H)
 have HH:=Za H;clear H;go_enter Tryz.func41,Tryz.ntmps41
 go_wp2_with (first|((with_reducible refine blz (N:=1) rfl ?_);refine bx_ 1 #[.int .i64 a0_0, .int .i64 a0_1, .int .i64 a0_2] 23 ?_;intro gb101 hg w7 hbox hb;have n_:=Zb (hs_ HB hb) (Zb (Za (hbox)) (Zb (ag_ HB gb101) (ag_ HB gb101)));clear HB;obtain ⟨HB,BK101,GW101,GE101⟩:=n_;clear hb hbox hg;obtain ⟨_,_,_,_,_,_⟩:=bc3_ BK101.out)|((with_reducible refine abz (f:=75) rfl ?_);refine gl_ (some 8) Tryz.func75 #[.int .i64 a0_0] ?_;(with_reducible refine (bmz.calls a0_0 t102 t103 t104 t105 t106 t107 _ A2.out).mono ?_);rintro e w9 ⟨rfl,hb⟩;refine ⟨_,rfl,?_⟩;have n_:=Zb (bb_ BK101 hb) (hs_ HB hb);clear BK101 HB;obtain ⟨BK101,HB⟩:=n_;(try clear hb))|((with_reducible refine blz (N:=3) rfl ?_);refine cxz ?hg (N:=3) ?hd (cs:= #[.string (⟨#[]⟩:ByteArray), .int .i64 0, .int .u32 0, .int .u8 0, .int .i64 0]) (t:=109) ?hr ?_;(case hd=>rfl);(case hg=>rfl);(case hr=>first|(go_simp;done)|(go_simp;rfl));intro gb108 hg w10 hbox hb;have n_:=Zb (bb_ BK101 hb) (Zb (hs_ HB hb) (Zb (Za (hbox)) (Zb (ag_ HB gb108) (Zb (ag_ HB gb108) (Zb (n1_ BK101 gb108) (n2_ BK101 gb108))))));clear BK101 HB;obtain ⟨BK101,HB,BK108,GW108,GE108,NB101_108,NB108_101⟩:=n_;clear hb hbox hg;have hnb11:=NB108_101.out;have hnc11:=NB101_108.out;obtain ⟨_,_,_,_,_,_,_,_,_,_⟩:=bc5_ BK108.out;obtain ⟨_,_,_,_,_,_⟩:=bc3_ BK101.out))
 all_goals
  go_ret;refine ⟨congrArg (fun b=>Ending.returned (.bool b)) ?_,bl_⟩;have H:=HH.out
  simp_all
 all_goals (rw [Yb (by omega)] at H;simp_all)
theorem S_F {w:World} {e t B:Nat} {k:IntKind} {ok:Nat->Prop} {v:Value} {xs:List (List Int)} (h:Kd.S (dM e k) t w B ok v xs): ∃A c,v= .slice A xs.length c/\xs.length<=c/\Kd.F (dM e k) w ok A xs.length xs:=by
 have hR:=Kd.S_R h;obtain ⟨A,c,rfl,hle, -⟩:=Kd.c6z hR;exact ⟨A,c,rfl,hle,fun W' hW=>(Kd.aNz (Kd.dpz hR hW)).2.2⟩
theorem S_FG {w:World} {g B:Nat} {wb p:Int} {S:Nat->Prop} {v:Value} {xs:List (List Int)} (h:Kd.S (dM 3 .i64) 57 w B (fun _=>True) v xs) (hF:Fd w g wb p S): ∃A c,v= .slice A xs.length c/\xs.length<=c/\Kd.F (dM 3 .i64) w (NotG g) A xs.length xs:=by
 obtain ⟨gcs,hg⟩:=Fd.cells hF;obtain ⟨A,c,e,hle,hf⟩:=S_F (Kd.eoz h hg (by decide));exact ⟨A,c,e,hle,Kd.bZz hf (fun q hq=>hq.2)⟩
def rawM (wb:Int) (rows cols:Nat):List (List Int):=madeF (fun (i j:Nat)=>gpow wb (i:Int) (j:Int)) rows cols
def isalM (wb:Int) (rows cols:Nat):List (List Int):=madeF (fun (i j:Nat)=>gpow wb (gpow wb 2 (i:Int)) (j:Int)) rows cols
theorem Raw.calls (g : Nat) (wb : Int) (S : Nat -> Prop) (rows cols : Nat) (W : World) (hw : wb = 8 \/ wb = 16) (hF : Fd W g wb (fpoly wb) S) (hS : ∀ k, S k -> k < W.heap.size) (h1 : 1 <= rows) (h2 : rows <= 20) (h3 : 1 <= cols) (h4 : cols <= 20) :
  Calls Tryz.prog 160 #[.pointer (some ⟨g,0,none⟩), .int .i64 (rows:Int), .int .i64 (cols:Int)] W fun e w'=> ∃v,e= .returned (.tuple #[v, .int .i64 0])/\Kd.S (dM 3 .i64) 57 w' W.heap.size (fun _=>True) v (rawM wb rows cols)/\Fd w' g wb (fpoly wb) S/\BB W w' g:=by
 have HM:=Za (madeRaw.calls g W.heap.size wb S rows cols (W.alloc (.cells #[.pointer (some ⟨g,0,none⟩)] 72)) hw (hF.alloc _) (fun k hk=>by have:=hS k hk;simp;omega) (heap_alloc_new _ _) (by omega) (by omega));have e1: ¬(rows:Int)<1:=by omega
 have e2: ¬(20:Int)<(rows:Int):=by omega
 have e3: ¬(cols:Int)<1:=by omega
 have e4: ¬(20:Int)<(cols:Int):=by omega
 have hmf: ∀(fn:Fn) (first cap:Array Value) (w:World),(Instr.makeFunc fn first cap).run Tryz.prog w= .ok (.func fn first cap) w:=fun _ _ _ _=>rfl
 clear hF hS hw h1 h2 h3 h4;go_enter Tryz.func160,Tryz.ntmps160
 go_wp2_with (first|(go_at_call 120;refine HM.out.mono ?_;rintro e w3 ⟨v,rfl,q1,q2,q3⟩))
 go_ret2;exact ⟨_,rfl,Kd.cJz q1 (by simp),q2,(BB.alloc (BB.refl W g) _).trans q3⟩
theorem Isal.calls (g : Nat) (wb : Int) (S : Nat -> Prop) (k m : Nat) (W : World) (hw : wb = 8 \/ wb = 16) (hF : Fd W g wb (fpoly wb) S) (hS : ∀ k, S k -> k < W.heap.size) (h1 : 1 <= k) (h2 : 1 <= m) (h3 : k < 20) (h4 : m < 20) (h5 : k + m <= 20) :
  Calls Tryz.prog 78 #[.pointer (some ⟨g,0,none⟩), .int .i64 (k:Int), .int .i64 (m:Int)] W fun e w'=> ∃v,e= .returned (.tuple #[v, .int .i64 0])/\Kd.S (dM 3 .i64) 57 w' W.heap.size (fun _=>True) v (isalM wb m k)/\Fd w' g wb (fpoly wb) S/\BB W w' g:=by
 have HM:=Za (madeIsal.calls g W.heap.size wb S m k (W.alloc (.cells #[.pointer (some ⟨g,0,none⟩)] 72)) hw (hF.alloc _) (fun k hk=>by have:=hS k hk;simp;omega) (heap_alloc_new _ _) (by omega) (by omega));have HT:=Za (fits.calls g k m (W.alloc (.cells #[.pointer (some ⟨g,0,none⟩)] 72)) h1 h2 h3 h4 h5);have hmf: ∀(fn:Fn) (first cap:Array Value) (w:World),(Instr.makeFunc fn first cap).run Tryz.prog w= .ok (.func fn first cap) w:=fun _ _ _ _=>rfl
 clear hF hS hw h1 h2 h3 h4 h5;go_enter Tryz.func78,Tryz.ntmps78
 go_wp2_with (first|(go_at_call 119;refine HT.out.mono ?_;rintro e w3 ⟨rfl,rfl⟩)|(go_at_call 120;refine HM.out.mono ?_;rintro e w3 ⟨v,rfl,q1,q2,q3⟩))
 go_ret2;exact ⟨_,rfl,Kd.cJz q1 (by simp),q2,(BB.alloc (BB.refl W g) _).trans q3⟩
theorem e4z {wb:Int} (tf:Nat->Nat->Int) (h: ∀i j,0<=tf i j/\tf i j<fsize wb) (rows cols:Nat): ∀r,r∈madeF tf rows cols->Good wb cols r:=by
 intro r hr;simp only [madeF,List.mem_map] at hr;obtain ⟨i, -,rfl⟩:=hr;refine ⟨by simp,fun x hx=> ?_⟩;simp only [List.mem_map] at hx;obtain ⟨j, -,rfl⟩:=hx;exact h i j
theorem rawM_good {wb:Int} (hw:wb=8\/wb=16) (rows cols:Nat): ∀r,r∈rawM wb rows cols->Good wb cols r:=e4z _ (fun i j=>efz hw _ _) rows cols
theorem rawM_length (wb:Int) (rows cols:Nat):(rawM wb rows cols).length=rows:=by simp [rawM,madeF]
def invM (wb:Int) (rows:List (List Int)):List (List Int):=(invF wb rows).1.map (·.drop rows.length)
theorem invM_good {wb:Int} (hw:wb=8\/wb=16) (rows:List (List Int)) (h: ∀r,r∈rows->Good wb rows.length r):(∀r,r∈invM wb rows->Good wb rows.length r)/\(invM wb rows).length=rows.length:=by
 have h1:=invF_good hw rows h;refine ⟨fun r hr=> ?_,by simp [invM,h1.2]⟩;simp only [invM,List.mem_map] at hr;obtain ⟨q,hq,rfl⟩:=hr;have h2:=h1.1 q hq;exact ⟨by rw [List.length_drop,h2.1];omega,fun x hx=>h2.2 x (List.mem_of_mem_drop hx)⟩
def sysM (wb:Int) (k m:Nat):List (List Int):=mulF wb (rawM wb (k+m) k) (invM wb ((rawM wb (k+m) k).take k)) k
theorem System.calls (g : Nat) (wb : Int) (S : Nat -> Prop) (k m : Nat) (W : World) (hw : wb = 8 \/ wb = 16) (hF : Fd W g wb (fpoly wb) S) (hS : ∀ k, S k -> k < W.heap.size) (h1 : 1 <= k) (h2 : 1 <= m) (h3 : k < 20) (h4 : m < 20) (h5 : k + m <= 20) (hinv : ¬ (invF wb ((rawM wb (k + m) k).take k)).2 < k) :
  Calls Tryz.prog 123 #[.pointer (some ⟨g,0,none⟩), .int .i64 (k:Int), .int .i64 (m:Int)] W fun e w'=> ∃v,e= .returned (.tuple #[v, .int .i64 0])/\Kd.S (dM 3 .i64) 57 w' W.heap.size (fun _=>True) v (sysM wb k m)/\Fd w' g wb (fpoly wb) S/\BB W w' g:=by
 have HT:=Za (fits.calls g k m W h1 h2 h3 h4 h5);have hraw:=Raw.calls g wb S (k+m) k W hw hF hS (by omega) h5 h1 (by omega);have HN:=Za (rawM_length wb (k+m) k);have HG:=Za (rawM_good hw (k+m) k);have HW:=Za hw;have HS:=Za hS;have HI:=Za hinv;have hsum:wrap64 ((k:Int)+(m:Int))=(k:Int)+(m:Int):=by unfold wrap64;omega
 rw [show ((k+m:Nat):Int)=(k:Int)+(m:Int) by omega] at hraw;have HX:=Za (show mulF wb (rawM wb (k+m) k) (invM wb ((rawM wb (k+m) k).take k)) k=sysM wb k m from rfl);generalize sysM wb k m=res at HX|-;generalize rawM wb (k+m) k=raw at hraw HN HG HI HX;have HRAW:=Za hraw;clear hraw hinv hF hS hw;go_enter Tryz.func123,Tryz.ntmps123
 go_wp2_with (first|(go_at_call 119;refine HT.out.mono ?_;rintro e w3 ⟨rfl,rfl⟩))
 go_wp2_with fail
 refine HRAW.out.mono ?_;rintro e w1 ⟨v1,rfl,q1,q2,q3⟩;obtain ⟨o,cap,rfl, -, -, -⟩:=Kd.S_form q1 (by rw [HN.out];omega);obtain ⟨A,c,he,hle,hf⟩:=S_FG q1 q2;injection he with he1 he2 he3
 subst he1;subst he3;rw [HN.out] at hle|-;have HF1:=Za q2;have HB1:=Za q3;have HFR:=Za hf;have htl:(raw.take k).length=k:=by rw [List.length_take,HN.out];omega
 have hgt: ∀r,r∈raw.take k->Good wb k r:=fun r hr=>HG.out r (List.mem_of_mem_take hr)
 have HSB:=Za (show∀q,S q->q<w1.heap.size from fun q hq=>Zp (HS.out q hq) q3.size);have hiv:=Inverse.calls g wb S (some ⟨o,0,none⟩) cap (raw.take k) w1 HW.out ⟨by omega,by omega,by omega,by omega,fun r hr=>by rw [htl];exact hgt r hr⟩ q2 HSB.out (by have:=Kd.F_now (Kd.F_take hf (show k<=raw.length by rw [HN.out];omega));exact this);have HIG:=Za (invM_good HW.out (raw.take k) (by rw [htl];exact hgt));rw [htl] at hiv HIG;rw [Yb HI.out] at hiv
 have HIV:=Za (show Calls Tryz.prog 97 #[.pointer (some ⟨g,0,none⟩), .slice (some ⟨o,0,none⟩) k cap] w1 fun e w'=> ∃v,e= .returned (.tuple #[v, .int .i64 0])/\Kd.S (dM 3 .i64) 57 w' w1.heap.size (fun _=>True) v (invM wb (raw.take k))/\Fd w' g wb (fpoly wb) S/\BB w1 w' g from hiv.mono (by
  rintro e w' ⟨v,e1,e2,e3,e4⟩;rw [Yb HI.out] at e2;refine ⟨v,e1,?_,e3,e4⟩;unfold invM;rw [htl]
  exact e2))
 have i1:(0:Int)<=(k:Int):=by omega
 have i2:(k:Int)<=(cap:Int):=by omega
 clear q1 q2 q3 hf htl hgt hiv he2
 go_wp2_with fail
 refine HIV.out.mono ?_;rintro e w2 ⟨v2,rfl,q1,q2,q3⟩;obtain ⟨A2,c2,rfl,hle2,hf2⟩:=S_FG q1 q2;have hil:=HIG.out.2;have hmul:=matrix_Mul.calls g wb S (some ⟨o,0,none⟩) A2 cap c2 k raw (invM wb (raw.take k)) w2 HW.out ⟨by rw [HN.out];omega,by rw [HN.out];omega,by omega,by omega,fun r hr=>by rw [hil];exact HG.out r hr⟩ ⟨by omega,by omega,by omega,by omega,fun r hr=>HIG.out.1 r hr⟩ q2 (fun q hq=>Zp (HSB.out q hq) q3.size) (F_bb HFR.out q3) hf2;rw [HX.out,HN.out,hil] at hmul;rw [hil];have HML:=Za hmul;have HB2:=Za (HB1.out.trans q3);have HZ:=Za (Zt HB1.out.size q3.size);clear q1 q2 q3 hf2 hil hmul hle2
 go_wp2_with (first|(go_at_call 161;refine HML.out.mono ?_;rintro e w5 ⟨v5,rfl,q1,q2,q3⟩))
 go_ret2;exact ⟨_,rfl,Kd.cJz q1 HZ.out,q2,HB2.out.trans q3⟩
theorem add_map (a k:Nat):Option.map (fun x=>x.add (k*(dM 3 .i64).sz)) (some (⟨a,0,none⟩:Addr))=some ⟨a,k,none⟩:=by
 show some ((⟨a,0,none⟩:Addr).add (k*1))=_;unfold Addr.add;split<;>simp_all
theorem rawM_take (wb:Int) (a k:Nat):(rawM wb (k+a) k).take k=rawM wb k k:=by
 unfold rawM madeF;rw [<-List.map_take,List.take_range,Nat.min_eq_left (by omega)]
theorem sys_inv: ∀k,k<9-> ¬(invF 8 (rawM 8 k k)).2<k:=by decide+kernel
def MatRes (M:List (List Int)) (m:Nat) (W:World) (g:Nat) (e:Ending) (w':World):Prop:= ∃A c,e= .returned (.tuple #[.slice A m c, .int .i64 0])/\m<=c/\Kd.F (dM 3 .i64) w' (fun q=>W.heap.size<=q) A m M/\BB W w' g
def ParRes (M:List (List Int)) (m:Nat) (W:World) (e:Ending) (w':World):Prop:= ∃A c,e= .returned (.tuple #[.slice A m c, .int .i64 0])/\m<=c/\Kd.F (dM 3 .i64) w' (fun q=>W.heap.size<=q) A m M/\Below W.heap.size W w'
theorem MatRes.of_S {W w':World} {g:Nat} {v:Value} {M:List (List Int)} {m:Nat} (hM:M.length=m) (h:Kd.S (dM 3 .i64) 57 w' W.heap.size (fun _=>True) v M) (hb:BB W w' g):MatRes M m W g (.returned (.tuple #[v, .int .i64 0])) w':=by
 obtain ⟨A,c,rfl,hl,hc⟩:=S_F (Kd.cGz (Kd.bFz h) (fun q hq=>hq.2.1));rw [hM] at hl hc|-;exact ⟨A,c,rfl,hl,hc,hb⟩
def parM (p:Int) (k m:Nat):List (List Int):=
 if p=1 then jvM 8 k m else if p=2 then cauM 16 (runL 0 m) (runL m k) else if p=3 then isalM 8 m k else if p=4 then cauM 8 (runL k m) (runL 0 k) else (sysM 8 k m).drop k
theorem pfn1 (g k m:Nat) (W:World) (hF:Fresh W g 8) (h1:1<=k) (h2:1<=m) (h3:k<=8) (h4:m<=4):Calls Tryz.prog 76 #[.pointer (some ⟨g,0,none⟩), .int .i64 (k:Int), .int .i64 (m:Int)] W (MatRes (parM 1 k m) m W g):=by
 refine (jpar.calls g 8 (fun _=>False) k m W (.inl rfl) (hF.fd _ (fun h=>h)) (fun _ h=>h.elim) h1 h2 h3 h4).mono ?_;rintro e w' ⟨A,c,rfl,q1,q2,q3,q4⟩;exact ⟨A,c,rfl,q1,Kd.bZz q2 (fun q hq=>hq.2),q4⟩
theorem pfn2 (g k m:Nat) (W:World) (hF:Fresh W g 16) (h1:1<=k) (h2:1<=m) (h3:k<=8) (h4:m<=4):Calls Tryz.prog 77 #[.pointer (some ⟨g,0,none⟩), .int .i64 (k:Int), .int .i64 (m:Int)] W (MatRes (parM 2 k m) m W g):=by
 refine (cOrig.calls g 16 (fun _=>False) k m W (.inr rfl) (hF.fd _ (fun h=>h)) (fun _ h=>h.elim) h1 h2 h3 h4).mono ?_;rintro e w' ⟨v,rfl,q1,q2,q3⟩;exact MatRes.of_S (M:=parM 2 k m) (show (cauM 16 (runL 0 m) (runL m k)).length=m by simp [cauM,runL]) q1 q3
theorem pfn3 (g k m:Nat) (W:World) (hF:Fresh W g 8) (h1:1<=k) (h2:1<=m) (h3:k<=8) (h4:m<=4):Calls Tryz.prog 78 #[.pointer (some ⟨g,0,none⟩), .int .i64 (k:Int), .int .i64 (m:Int)] W (MatRes (parM 3 k m) m W g):=by
 refine (Isal.calls g 8 (fun _=>False) k m W (.inl rfl) (hF.fd _ (fun h=>h)) (fun _ h=>h.elim) h1 h2 (by omega) (by omega) (by omega)).mono ?_;rintro e w' ⟨v,rfl,q1,q2,q3⟩;exact MatRes.of_S (M:=parM 3 k m) (show (isalM 8 m k).length=m by simp [isalM,madeF]) q1 q3
theorem pfn4 (g k m:Nat) (W:World) (hF:Fresh W g 8) (h1:1<=k) (h2:1<=m) (h3:k<=8) (h4:m<=4):Calls Tryz.prog 79 #[.pointer (some ⟨g,0,none⟩), .int .i64 (k:Int), .int .i64 (m:Int)] W (MatRes (parM 4 k m) m W g):=by
 refine (cIsal.calls g 8 (fun _=>False) k m W (.inl rfl) (hF.fd _ (fun h=>h)) (fun _ h=>h.elim) h1 h2 h3 h4).mono ?_;rintro e w' ⟨v,rfl,q1,q2,q3⟩;exact MatRes.of_S (M:=parM 4 k m) (show (cauM 8 (runL k m) (runL 0 k)).length=m by simp [cauM,runL]) q1 q3
theorem behind.calls (g k m:Nat) (W:World) (hF:Fresh W g 8) (h1:1<=k) (h2:1<=m) (h3:k<=8) (h4:m<=4):Calls Tryz.prog 80 #[.pointer (some ⟨g,0,none⟩), .int .i64 (k:Int), .int .i64 (m:Int)] W (MatRes ((sysM 8 k m).drop k) m W g):=by
 have HS:=Za (System.calls g 8 (fun _=>False) k m W (.inl rfl) (hF.fd _ (fun h=>h)) (fun _ h=>h.elim) h1 h2 (by omega) (by omega) (by omega) (by rw [rawM_take];exact sys_inv k (by omega)));have HL:=Za (show (sysM 8 k m).length=k+m by simp [sysM,mulF,rawM,madeF]);generalize sysM 8 k m=M at HS HL|-;obtain ⟨n,hn⟩: ∃n,k+m=n:=⟨_,rfl⟩;rw [hn] at HL;have hnm:n - k=m:=by omega
 have e1:(0:Int)<=(k:Int):=by omega
 have e2:(k:Int)<=(n:Int):=by omega
 have e3:k<n:=by omega
 clear hF h1 h2 h3 h4 hn;go_enter Tryz.func80,Tryz.ntmps80
 go_wp2_with fail
 refine HS.out.mono ?_;rintro e w1 ⟨v,rfl,q1,q2,q3⟩;obtain ⟨a,c,rfl, -, -, -⟩:=Kd.S_form q1 (by rw [HL.out];omega);obtain ⟨-,hl,hc⟩:=Kd.S_reads' q1;have f1: ¬c=k:=by have:=HL.out;omega
 have hf:=Kd.S_F (Kd.cGz (Kd.bFz q1) (fun q hq=>hq.2.1));have HD:=Za (Kd.F_imp hf (fun W' hc'=>Kd.C_drop hc' (m:=k) (c:=c) (by rw [HL.out];omega) hl));rw [Yb f1,List.length_drop,HL.out,hnm,add_map] at HD;have HC:=Za (show m<=c - k by have:=HL.out;omega);have HB:=Za q3;rw [HL.out];clear q1 q2 q3 hl hc hf HS HL;go_wp2;go_ret2;exact ⟨_,_,rfl,HC.out,HD.out,HB.out⟩
theorem pfn5 (g k m:Nat) (W:World) (hF:Fresh W g 8) (h1:1<=k) (h2:1<=m) (h3:k<=8) (h4:m<=4):Calls Tryz.prog 80 #[.pointer (some ⟨g,0,none⟩), .int .i64 (k:Int), .int .i64 (m:Int)] W (MatRes (parM 5 k m) m W g):=behind.calls g k m W hF h1 h2 h3 h4
theorem pfn6 (g k m:Nat) (W:World) (hF:Fresh W g 8) (h1:1<=k) (h2:1<=m) (h3:k<=8) (h4:m<=4):Calls Tryz.prog 80 #[.pointer (some ⟨g,0,none⟩), .int .i64 (k:Int), .int .i64 (m:Int)] W (MatRes (parM 6 k m) m W g):=behind.calls g k m W hF h1 h2 h3 h4
def pwArr:Array Value:= #[.func (.func 76) #[] #[], .func (.func 77) #[] #[], .func (.func 78) #[] #[], .func (.func 79) #[] #[], .func (.func 80) #[] #[], .func (.func 80) #[] #[]]
theorem pway (p : Int) (q : Nat) (F : FuncId) (fn : Func) (hfn : Tryz.prog.funcs[F]? = some fn) (hnm : (fn.name == "runtime.NumGoroutine") = false) (hbd : fn.body.isSome = true) (hq : p = (q : Int) + 1) (hq6 : q < 6) (hcell : pwArr[q]? = some (.func (.func F) #[] #[])) (k m : Nat) (res : List (List Int)) (W : World) (hm : aDz.f p (k : Int) (m : Int) = some true) (hp : ∀ g W', Fresh W' g (pbits p) -> Calls Tryz.prog F #[.pointer (some ⟨g, 0, none⟩), .int .i64 (k : Int), .int .i64 (m : Int)] W' (MatRes res m W' g)) :
  Calls Tryz.prog 44 #[.agg #[.int .i64 p, .int .i64 (k:Int), .int .i64 (m:Int)]] W (ParRes res m W):=by
 have HM:=Za hm;have HP:=Za hp;have HFN:=Za hfn;have HNM:=Za hnm;have HBD:=Za hbd;have HCL:=Za hcell;have HFD:=Za (dkz.calls p (by omega));have hwq:wrap64 (p - 1)=(q:Int):=by unfold wrap64;omega
 have hb:=heap_alloc_new W (.cells #[.int .i64 p, .int .i64 (k:Int), .int .i64 (m:Int)] 23);have HB:=Za (show Below W.heap.size W (W.alloc (.cells #[.int .i64 p, .int .i64 (k:Int), .int .i64 (m:Int)] 23)) from alz (Zw _ _) _);have hu:=Tryz.underlying23;have h60:(0:Int)<=(q:Int):=by omega
 have h61:(q:Int)<6:=by omega
 clear hm hp hfn hnm hbd hcell hq;go_enter Tryz.func44,Tryz.ntmps44
 go_wp2_with fail
 generalize W.alloc (.cells #[.int .i64 p, .int .i64 (k:Int), .int .i64 (m:Int)] 23)=w1 at HB hb|-;have HX:=Za hb;clear hb;refine (aDz.calls p (k:Int) (m:Int) true _ HM.out).mono ?_;rintro e w2 ⟨rfl,hB2⟩;have HB2:=Za (HB.out.trans (hB2.mono HB.out.size));have HX2:=Za (awz HX.out hB2);have HZ2:=Za hB2.size;obtain ⟨fb,hfb⟩: ∃fb,fb=W.heap.size:=⟨_,rfl⟩;rw [<-hfb] at HX2|-;clear hB2 hfb
 go_wp2_with fail
 have HA:=Za (heap_alloc_new w2 (.cells pwArr 113));have HX3:=Za (awz HX2.out (alz (Zw w2.heap.size w2) (.cells pwArr 113)));have HB3:=Za (alz HB2.out (.cells pwArr 113));obtain ⟨ab,hab⟩: ∃ab,ab=w2.heap.size:=⟨_,rfl⟩;rw [<-hab] at HA|-;clear hab HX2 HB2;rw [show (#[.func (.func 76) #[] #[], .func (.func 77) #[] #[], .func (.func 78) #[] #[], .func (.func 79) #[] #[], .func (.func 80) #[] #[], .func (.func 80) #[] #[]] :Array Value)=pwArr from rfl];generalize w2.alloc (.cells pwArr 113)=w3 at HA HX3 HB3|-;have c0:w3.cell? ⟨fb,0,none⟩=some (.int .i64 p):=(aaz HX3.out 0).trans rfl;have c1:w3.cell? ⟨fb,1,none⟩=some (.int .i64 (k:Int)):=(aaz HX3.out 1).trans rfl;have c2:w3.cell? ⟨fb,2,none⟩=some (.int .i64 (m:Int)):=(aaz HX3.out 2).trans rfl;have c3:w3.cell? ⟨ab,q,none⟩=some (.func (.func F) #[] #[]):=(aaz HA.out q).trans HCL.out;refine clz (n:=17) (S:=fun w'=>w'.cell? ⟨fb,0,none⟩=some (.int .i64 p)/\w'.cell? ⟨fb,1,none⟩=some (.int .i64 (k:Int))/\w'.cell? ⟨fb,2,none⟩=some (.int .i64 (m:Int))/\w'.cell? ⟨ab,q,none⟩=some (.func (.func F) #[] #[])) (ds:= [12]) (bA 17 0) kr_ rfl rfl ⟨c0,c1,c2,c3⟩ (fun hHeld=> ?_)
 refine pu_ 0 9 1 ?_;refine pu_ 5 14 33 ?_;refine pu_ 8 17 289 ?_;refine pu_ 10 19 1313 ?_;refine tk_ 1 10 1315 hHeld ?_;refine pu_ 2 11 1319 ?_;refine pu_ 3 12 1327 ?_;refine tk_ 4 13 1343 hHeld ?_;refine tk_ 6 15 1407 hHeld ?_;refine tk_ 9 18 1919 hHeld ?_;refine tk_ 11 20 3967 hHeld ?_;refine one_ (i:=7) (N:=some 16) (bA 17 4095) rfl rfl kr_ (by decide) (fun K hK=> ?_);refine goes_ Tryz.func45 kr_ rfl #[.int .i64 p] (by rfl) rfl rfl am_ ?_
 with_reducible refine (HFD.out w3.drew).mono ?_
 rintro e w4 ⟨g,rfl,q1,q2,q3⟩;refine ⟨_,rfl,?_⟩;refine hK.out _ _ ⟨aUz q3 c0,aUz q3 c1,aUz q3 c2,aUz q3 c3⟩ (fun hHeld=> ?_);clear hK K;refine norm_ (a':= ?_) ?_ ?_;rotate_left
 ·show Act.put _ (some 16) _=_;simp only [Act.put,Zg,Zh,Zi,i64_w,i32_w];rfl
 refine last_ (i:=12) (N:=some 21) (bA 17 8191) rfl rfl kr_ (by decide) (fun K hK=> ?_);refine goesV_ HFN.out HNM.out HBD.out (.tmp 13) #[] #[] #[.pointer (some ⟨g,0,none⟩), .int .i64 (k:Int), .int .i64 (m:Int)] (by rfl) (by rfl) rfl rfl am_ ?_
 with_reducible refine (HP.out g w4 q1).mono ?_
 rintro e w5 ⟨A,c,rfl,p1,p2,p3⟩;refine ⟨_,rfl,?_⟩;refine hK.out _ _ ?_;clear hK K;refine norm_ (a':= ?_) ?_ ?_;rotate_left
 ·show Act.put _ (some 21) _=_;simp only [Act.put,Zg,Zh,Zi,i64_w,i32_w];rfl
 refine pu_ 13 22 16383 ?_;refine pu_ 14 23 32767 ?_;refine pu_ 15 2 65535 ?_;refine pu_ 16 3 131071 ?_;refine done_ kr_ ?_;clear hwq;go_wp2;go_ret2;exact ⟨_,_,rfl,p1,Kd.bZz p2 (fun q hq=>Zt HB3.out.size (Zt q3.size hq)),p3.below ((show Below W.heap.size W w3.drew from duz HB3.out).trans (q3.mono HB3.out.size)) (Zt HB3.out.size q2)⟩
theorem pway1 (k m : Nat) (W : World) (h1 : 1 <= k) (h2 : 1 <= m) (h3 : k <= 8) (h4 : m <= 4) (hm : aDz.f 1 (k : Int) (m : Int) = some true) :
  Calls Tryz.prog 44 #[.agg #[.int .i64 1, .int .i64 (k:Int), .int .i64 (m:Int)]] W (ParRes (parM 1 k m) m W):=
 pway 1 0 76 _ Tryz.func76 kr_ rfl rfl (by decide) rfl k m _ W hm (fun g W' h=>pfn1 g k m W' (by rwa [show pbits 1=8 by simp [pbits]] at h) h1 h2 h3 h4)
theorem pway2 (k m : Nat) (W : World) (h1 : 1 <= k) (h2 : 1 <= m) (h3 : k <= 8) (h4 : m <= 4) (hm : aDz.f 2 (k : Int) (m : Int) = some true) :
  Calls Tryz.prog 44 #[.agg #[.int .i64 2, .int .i64 (k:Int), .int .i64 (m:Int)]] W (ParRes (parM 2 k m) m W):=
 pway 2 1 77 _ Tryz.func77 kr_ rfl rfl (by decide) rfl k m _ W hm (fun g W' h=>pfn2 g k m W' (by rwa [show pbits 2=16 by simp [pbits]] at h) h1 h2 h3 h4)
theorem pway3 (k m : Nat) (W : World) (h1 : 1 <= k) (h2 : 1 <= m) (h3 : k <= 8) (h4 : m <= 4) (hm : aDz.f 3 (k : Int) (m : Int) = some true) :
  Calls Tryz.prog 44 #[.agg #[.int .i64 3, .int .i64 (k:Int), .int .i64 (m:Int)]] W (ParRes (parM 3 k m) m W):=
 pway 3 2 78 _ Tryz.func78 kr_ rfl rfl (by decide) rfl k m _ W hm (fun g W' h=>pfn3 g k m W' (by rwa [show pbits 3=8 by simp [pbits]] at h) h1 h2 h3 h4)
theorem pway4 (k m : Nat) (W : World) (h1 : 1 <= k) (h2 : 1 <= m) (h3 : k <= 8) (h4 : m <= 4) (hm : aDz.f 4 (k : Int) (m : Int) = some true) :
  Calls Tryz.prog 44 #[.agg #[.int .i64 4, .int .i64 (k:Int), .int .i64 (m:Int)]] W (ParRes (parM 4 k m) m W):=
 pway 4 3 79 _ Tryz.func79 kr_ rfl rfl (by decide) rfl k m _ W hm (fun g W' h=>pfn4 g k m W' (by rwa [show pbits 4=8 by simp [pbits]] at h) h1 h2 h3 h4)
theorem pway5 (k m : Nat) (W : World) (h1 : 1 <= k) (h2 : 1 <= m) (h3 : k <= 8) (h4 : m <= 4) (hm : aDz.f 5 (k : Int) (m : Int) = some true) :
  Calls Tryz.prog 44 #[.agg #[.int .i64 5, .int .i64 (k:Int), .int .i64 (m:Int)]] W (ParRes (parM 5 k m) m W):=
 pway 5 4 80 _ Tryz.func80 kr_ rfl rfl (by decide) rfl k m _ W hm (fun g W' h=>pfn5 g k m W' (by rwa [show pbits 5=8 by simp [pbits]] at h) h1 h2 h3 h4)
theorem pway6 (k m : Nat) (W : World) (h1 : 1 <= k) (h2 : 1 <= m) (h3 : k <= 8) (h4 : m <= 4) (hm : aDz.f 6 (k : Int) (m : Int) = some true) :
  Calls Tryz.prog 44 #[.agg #[.int .i64 6, .int .i64 (k:Int), .int .i64 (m:Int)]] W (ParRes (parM 6 k m) m W):=
 pway 6 5 80 _ Tryz.func80 kr_ rfl rfl (by decide) rfl k m _ W hm (fun g W' h=>pfn6 g k m W' (by rwa [show pbits 6=8 by simp [pbits]] at h) h1 h2 h3 h4)
theorem e5z {wb:Int} (hw:wb=8\/wb=16) (a:Int):0<=ginv wb a/\ginv wb a<fsize wb:=by
 unfold ginv;split
 ·rcases hw with rfl|rfl
  ·exact efz (.inl rfl) a 254
  ·exact efz (.inr rfl) a 65534
 ·rcases hw with rfl|rfl<;>decide
theorem cauM_good {wb:Int} (hw:wb=8\/wb=16) (x y:List Int): ∀r,r∈cauM wb x y->Good wb y.length r:=by
 intro r hr;obtain ⟨a, -,rfl⟩:=List.mem_map.1 hr;refine ⟨by simp,fun z hz=> ?_⟩;obtain ⟨b, -,rfl⟩:=List.mem_map.1 hz;exact e5z hw _
theorem exz {wb:Int} {L:Nat} {r:List Int} (h:Good wb L r) (j:Nat) {x:Int} (hx:0<=x/\x<fsize wb):Good wb L (r.set j x):=by
 refine ⟨by rw [List.length_set];exact h.1,fun y hy=> ?_⟩;rcases List.mem_or_eq_of_mem_set hy with h1|rfl
 ·exact h.2 y h1
 ·exact hx
theorem getD_good {wb:Int} (hw:wb=8\/wb=16) {L:Nat} {r:List Int} (h:Good wb L r) (j:Nat):0<=r.getD j 0/\r.getD j 0<fsize wb:=by
 rw [Zm]
 cases e:r[j]? with
 |none=>rcases hw with rfl|rfl<;>decide
 |some x=>exact h.2 x (Zo e)
theorem dotF_range {wb:Int} (hw:wb=8\/wb=16): ∀(a b:List Int) (s:Int),(0<=s/\s<fsize wb)->0<=dotF wb a b s/\dotF wb a b s<fsize wb
 | [],_,s,h=>by unfold dotF;exact h
 |_::_, [],s,h=>by unfold dotF;exact h
 |x::a,y::b,s,h=>by unfold dotF;exact dotF_range hw a b _ (eJz hw h (bQz hw _ _))
theorem sysM_good (k m:Nat): ∀r,r∈sysM 8 k m->Good 8 k r:=by
 intro r hr;unfold sysM mulF at hr;obtain ⟨row, -,rfl⟩:=List.mem_map.1 hr;refine ⟨by simp [transp],fun z hz=> ?_⟩;obtain ⟨col, -,rfl⟩:=List.mem_map.1 hz;exact dotF_range (.inl rfl) _ _ 0 (by decide)
section
variable {wb : Int} (hw : wb = 8 \/ wb = 16) {L : Nat}
include hw
theorem swpF_good {i:Nat} {rows:List (List Int)} (h: ∀r,r∈rows->Good wb L r): ∀r,r∈swpF i rows->Good wb L r:=by
 unfold swpF;split
 ·exact h
 ·intro r hr;obtain ⟨q,hq,rfl⟩:=List.mem_map.1 hr;exact exz (exz (h q hq) _ (getD_good hw (h q hq) _)) _ (getD_good hw (h q hq) _)
theorem sclF_good {c:Int} {f j:Nat} {rows:List (List Int)} (h: ∀r,r∈rows->Good wb L r): ∀r,r∈sclF wb c f j rows->Good wb L r:=by
 intro r hr;unfold sclF sclTo at hr;rcases List.mem_append.1 hr with hr|hr
 ·exact h r (List.mem_of_mem_take hr)
 ·rcases List.mem_append.1 hr with hr|hr
  ·obtain ⟨q,hq,rfl⟩:=List.mem_map.1 hr;exact exz (h q (List.mem_of_mem_drop (List.mem_of_mem_take hq))) _ (bQz hw _ _)
  ·exact h r (List.mem_of_mem_drop (List.mem_of_mem_drop hr))
theorem cutF_good {i:Nat} : ∀(cs:List Int) (j:Nat) (rows:List (List Int)),(∀r,r∈rows->Good wb L r)-> ∀r,r∈cutF wb i cs j rows->Good wb L r
 | [],_,_,h=>h
 |c::cs,j,rows,h=>by
  unfold cutF;refine cutF_good cs (j+1) _ ?_;unfold cutCol;split
  ·exact h
  ·intro r hr;obtain ⟨q,hq,rfl⟩:=List.mem_map.1 hr;exact exz (h q hq) _ (eJz hw (getD_good hw (h q hq) _) (bQz hw _ _))
theorem stepsF_good {rows:List (List Int)} (h: ∀r,r∈rows->Good wb L r): ∀i, ∀r,r∈stepsF wb i rows->Good wb L r
 |0=>h
 |i+1=>by
  unfold stepsF stepF;exact cutF_good hw _ _ _ (sclF_good hw (swpF_good hw (stepsF_good h i)))
theorem colsF_good {k:Nat} {rows:List (List Int)} (h: ∀r,r∈rows->Good wb L r): ∀j, ∀r,r∈colsF wb k j rows->Good wb L r
 |0=>h
 |j+1=>by
  unfold colsF;exact sclF_good hw (colsF_good h j)
end
theorem jvM_good {wb:Int} (hw:wb=8\/wb=16) (k m:Nat) (h1:1<=k) (h2:1<=m):(∀r,r∈jvM wb k m->Good wb k r)/\(jvM wb k m).length=m:=by
 have he: ∀r,r∈extM wb k m->Good wb k r:=by
  intro r hr;unfold extM at hr;rcases List.mem_append.1 hr with hr|hr
  ·exact e4z _ (fun i j=>efz hw _ _) _ _ r hr
  ·rw [List.mem_singleton.1 hr];unfold lastU;refine exz ⟨by simp,fun x hx=> ?_⟩ _ (by rcases hw with rfl|rfl<;>decide);rw [(List.mem_replicate.1 hx).2];rcases hw with rfl|rfl<;>decide
 have hc:=colsF_good hw (k:=k) (stepsF_good hw he k) k
 have hl:(colsF wb k k (stepsF wb k (extM wb k m))).length=k+m:=by
  rw [(e3z (wb:=wb) (k:=k) (d9z (wb:=wb) (eLz wb k m h1 h2).1 k).1 k).2,(d9z (wb:=wb) (eLz wb k m h1 h2).1 k).2,(eLz wb k m h1 h2).2]
 unfold jvM;generalize colsF wb k k (stepsF wb k (extM wb k m))=R at hc hl;refine ⟨fun r hr=> ?_,by simp [hl];omega⟩;rcases List.mem_append.1 hr with hr|hr
 ·exact hc r (List.mem_of_mem_drop (List.mem_of_mem_take hr))
 ·obtain ⟨q,hq,rfl⟩:=List.mem_map.1 hr;have hg:=hc q (List.mem_of_mem_drop (List.mem_of_mem_drop hq));refine ⟨by unfold rowInv;rw [List.length_map];exact hg.1,fun x hx=> ?_⟩;obtain ⟨y, -,rfl⟩:=List.mem_map.1 hx;exact bQz hw _ _
theorem dgz (p:Int) (k m:Nat) (h1:1<=k) (h2:1<=m) (h3:k<=8) (h4:m<=4):(∀r,r∈parM p k m->Good (pbits p) k r)/\(parM p k m).length=m:=by
 unfold parM pbits;by_cases e1:p=1
 ·subst e1;exact jvM_good (.inl rfl) k m h1 h2
 ·rw [Yb e1];by_cases e2:p=2
  ·rw [Ya e2,Ya e2];refine ⟨fun r hr=> ?_,by simp [cauM,runL]⟩;have:=cauM_good (.inr rfl) _ _ r hr;rwa [bKz] at this
  ·rw [Yb e2,Yb e2];by_cases e3:p=3
   ·rw [Ya e3];exact ⟨e4z _ (fun i j=>efz (.inl rfl) _ _) m k,by simp [isalM,madeF]⟩
   ·rw [Yb e3];by_cases e4:p=4
    ·rw [Ya e4];refine ⟨fun r hr=> ?_,by simp [cauM,runL]⟩;have:=cauM_good (.inl rfl) _ _ r hr;rwa [bKz] at this
    ·rw [Yb e4];exact ⟨fun r hr=>sysM_good k m r (List.mem_of_mem_drop hr),by simp [sysM,mulF,rawM,madeF]⟩
end Go.Proofs.Xc
end
section
namespace Go.Proofs.Xc
open Go.RowKit Go.Proofs.Pw Go.Proofs.Pl Go.Proofs.Pm
attribute [local go_sem] a7z a8z bjz bkz aZz a0z a9z baz
theorem cvz {p k m:Int} (h:aDz.f p k m=some true):1<=p/\p<=6/\1<=k/\k<=8/\1<=m/\m<=4:=by
 unfold aDz.f at h;by_cases hp:1<=p/\p<=6
 ·obtain ⟨h1,h2⟩:=hp;have:p=1\/p=2\/p=3\/p=4\/p=5\/p=6:=by omega
  rcases this with rfl|rfl|rfl|rfl|rfl|rfl
  all_goals
   simp only [bmz.f] at h;by_cases c1:k>=1
   ·by_cases c2:k<=8
    ·by_cases c3:m>=1
     ·simp [c1,c2,c3] at h;omega
     ·simp [c1,c2,c3] at h
    ·simp [c1,c2] at h
   ·simp [c1] at h
 ·have : bmz.f p = some (ByteArray.empty, 0, 0, 0, 0, false) := by
   unfold bmz.f;simp only [not_and] at hp
   repeat (first|rw [Yb (by omega)] |rfl)
  rw [this] at h;simp at h
theorem may_some (p k m:Int): ∃b,aDz.f p k m=some b:=by
 unfold aDz.f
 obtain ⟨x,hx⟩: ∃x,bmz.f p=some x:=by
  unfold bmz.f
  repeat' split
  all_goals exact ⟨_,rfl⟩
 rw [hx];simp only [Zl]
 repeat' split
 all_goals exact ⟨_,rfl⟩
theorem cZz.ok (p k m : Int) (W : World) (h : aDz.f p k m = some true) :
  Calls Tryz.prog 44 #[.agg #[.int .i64 p, .int .i64 k, .int .i64 m]] W (ParRes (parM p k.toNat m.toNat) m.toNat W):=by
 obtain ⟨p1,p2,k1,k2,m1,m2⟩:=cvz h;obtain ⟨k,rfl⟩:=Int.eq_ofNat_of_zero_le (show 0<=k by omega);obtain ⟨m,rfl⟩:=Int.eq_ofNat_of_zero_le (show 0<=m by omega);simp only [Zu];have:p=1\/p=2\/p=3\/p=4\/p=5\/p=6:=by omega
 rcases this with rfl|rfl|rfl|rfl|rfl|rfl
 ·exact pway1 k m W (by omega) (by omega) (by omega) (by omega) h
 ·exact pway2 k m W (by omega) (by omega) (by omega) (by omega) h
 ·exact pway3 k m W (by omega) (by omega) (by omega) (by omega) h
 ·exact pway4 k m W (by omega) (by omega) (by omega) (by omega) h
 ·exact pway5 k m W (by omega) (by omega) (by omega) (by omega) h
 ·exact pway6 k m W (by omega) (by omega) (by omega) (by omega) h
theorem cZz.no (p k m : Int) (W : World) (h : aDz.f p k m = some false) :
  Calls Tryz.prog 44 #[.agg #[.int .i64 p, .int .i64 k, .int .i64 m]] W fun e w'=>e= .returned (.tuple #[.slice none 0 0, .int .i64 1])/\Below W.heap.size W w':=by
 have HM:=Za h;have HB:=Za (show Below W.heap.size W (W.alloc (.cells #[.int .i64 p, .int .i64 k, .int .i64 m] 23)) from alz (Zw _ _) _);have hu:=Tryz.underlying23;clear h;go_enter Tryz.func44,Tryz.ntmps44
 go_wp2_with fail
 refine (aDz.calls p k m false _ HM.out).mono ?_;rintro e w2 ⟨rfl,hB2⟩;have HB2:=Za (HB.out.trans (hB2.mono HB.out.size));clear hB2;go_wp2;go_ret2;exact ⟨rfl,HB2.out⟩
def byteF (wb a:Int):List Int:=if wb=8 then [a % 256] else [a % 256,a / 256 % 256]
def bytesF (wb:Int) (l:List Int):List Int:=l.flatMap (byteF wb)
theorem bytesF_take (wb:Int) (l:List Int) (k:Nat) (a:Int) (h:l[k]?=some a):bytesF wb (l.take (k+1))=bytesF wb (l.take k)++byteF wb a:=by
 unfold bytesF;rw [List.take_add_one,h,List.flatMap_append];simp
theorem e9z (wb:Int): ∀l:List Int,(bytesF wb l).length<=2*l.length
 | [] =>by simp [bytesF]
 |a::l=>by
  have h1:=e9z wb l;have h2:(byteF wb a).length<=2:=by unfold byteF;split<;>simp
  have h3:bytesF wb (a::l)=byteF wb a++bytesF wb l:=by unfold bytesF;rw [List.flatMap_cons]
  rw [h3,List.length_append,List.length_cons];omega
theorem rBytes.calls (g : Nat) (wb p : Int) (S : Nat -> Prop) (A : Option Addr) (c : Nat) (l : List Int) (W : World) (hw : wb = 8 \/ wb = 16) (hF : Fd W g wb p S) (hl : Kd.C (Kd.int .i64) W A l.length l) (hlen : l.length <= 1000000) (hin : ∀ a, a ∈ l -> 0 <= a /\ a < fsize wb) :
  Calls Tryz.prog 104 #[.pointer (some ⟨g,0,none⟩), .slice A l.length c] W fun e w'=> ∃v,e= .returned (.tuple #[v, .int .i64 0])/\(Kd.int .u8).R 5 w' W.heap.size (fun _=>True) v (bytesF wb l)/\Below W.heap.size W w':=by
 have HF:=Za hF;have HW:=Za hw;have HL:=Za hl;have HIN:=Za hin;obtain ⟨n,hn⟩: ∃n,l.length=n:=⟨_,rfl⟩;have HLEN:=Za hn;rw [hn] at hlen HL|-;clear hF hw hl hin hn;go_enter Tryz.func104,Tryz.ntmps104;go_wp2
 go_loopw [6,13] (fun v iv wr=> ∃k:Nat,k<=n/\iv= .int .i64 (k:Int)/\Aside0 ((Kd.int .u8).R 5 wr W.heap.size (fun _=>True) v (bytesF wb (l.take k)))/\Aside0 (Below W.heap.size W wr)) (fun _ iv _=>n - (intOf iv).toNat)
 case atStart=>exact ⟨0,Nat.zero_le _,rfl,⟨Kd.R_nil _ _ _ _ _⟩,⟨Zw _ _⟩⟩
 obtain ⟨w3,rfl⟩: ∃w3,w3=wr:=⟨_,rfl⟩;obtain ⟨k,hk,rfl,HR,HB⟩:=hrel;by_cases hlt:k<n
 ·obtain ⟨a,ha⟩: ∃x,l[k]?=some x:=⟨_,Zf (by have:=HLEN.out;omega)⟩;obtain ⟨ad,rfl,hc1⟩:=cHz (Kd.azz (HLEN.out.symm▸HL.out) HB.out) k a ha;have hr:=HIN.out a (Zo ha);have HT:=Za (bytesF_take wb l k a ha)
  have HLL:=Za (show (bytesF wb (l.take k)).length<=3000000 by
   have h1:=e9z wb (l.take k);have h2:=List.length_take_le k l
   omega)
  have hr1:=hr.1
  have hr2:a<65536:=by have:=hr.2;rcases HW.out with rfl|rfl<;>simp [fsize] at this<;>omega
  have HI:=Za (show inF wb a=true by unfold inF;rw [Zd hr.1,Zd hr.2];rfl);have HRI:=Za (rin.calls g wb p a S w3 HW.out (HF.out.below HB.out));rw [HI.out] at HRI;have HBI:=Za (fun w' (h:Below W.heap.size W w')=>gf_Bits.calls g wb p S w' (HF.out.below h));have HZ:=Za (show W.heap.size<=w3.heap.size from HB.out.size);generalize bytesF wb (l.take k)=pre at HR HT HLL;clear ha hr
  go_wp2_with fail
  refine HRI.out.mono ?_;rintro e w4 ⟨rfl,m4,rfl⟩;have HR4:=Za (Kd.dmz HR.out m4);have HB4:=Za (aSz HB.out m4);have HZ4:=Za (show W.heap.size<=(w3.drewN m4).heap.size from HZ.out);generalize w3.drewN m4=w4 at HR4 HB4 HZ4|-;clear HRI;have e1:0<=a % 256:=by omega
  have e2:0<=a / 256:=by omega
  have HTW:=Za (show byteF 8 a= [a % 256] /\byteF 16 a= [a % 256] ++ [a / 256] from ⟨by simp [byteF],by simp [byteF];omega⟩);have HL2:=Za (show (pre++ [a % 256]).length<=3000001 by have:=HLL.out;simp;omega);rcases HW.out with rfl|rfl
  ·rw [HTW.out.1] at HT
   go_wp2_with ((with_reducible refine anz (b:= .append) (xs:= #[.tmp 21, .tmp 24]) rfl ?_);go_must (at_builtin;refine Kd.bxz (Kd.int .u8) (w0:=w4) W.heap.size rfl (.tmp 21) (.tmp 24) 34 5 (.int .u8 0) 1 rfl Tryz.underlying34 kr_ rfl (by decide) (by decide) _ _ (a % 256) [.int .u8 (a % 256)] (fun _=>True) (fun _=>False) rfl rfl rfl (fun _ h=>h.elim) (fun _ _=>trivial) HR4.out (Zw _ _) HZ4.out ?aL ?_;(case aL=>have:=HLL.out;omega));intro v5 w5 ho hb hg hat;have HR5:=Za ho;have HB5:=Za hb;clear ho hb hg hat;skip)
   have HB6:=Za (HB4.out.trans HB5.out)
   go_wp2_with fail
   refine (HBI.out w5 HB6.out).mono ?_;rintro e w7 ⟨rfl,m7,rfl⟩;go_wp2;go_roundw
   case rel=>exact ⟨k+1,by omega,by go_num,⟨by rw [HT.out];exact Kd.dmz HR5.out m7⟩,⟨aSz HB6.out m7⟩⟩
   case measure=>simp [intOf];omega
  ·rw [HTW.out.2, <-List.append_assoc] at HT
   go_wp2_with ((with_reducible refine anz (b:= .append) (xs:= #[.tmp 21, .tmp 24]) rfl ?_);go_must (at_builtin;refine Kd.bxz (Kd.int .u8) (w0:=w4) W.heap.size rfl (.tmp 21) (.tmp 24) 34 5 (.int .u8 0) 1 rfl Tryz.underlying34 kr_ rfl (by decide) (by decide) _ _ (a % 256) [.int .u8 (a % 256)] (fun _=>True) (fun _=>False) rfl rfl rfl (fun _ h=>h.elim) (fun _ _=>trivial) HR4.out (Zw _ _) HZ4.out ?aL ?_;(case aL=>have:=HLL.out;omega));intro v5 w5 ho hb hg hat;have HR5:=Za ho;have HB5:=Za hb;clear ho hb hg hat;skip)
   have HB6:=Za (HB4.out.trans HB5.out)
   go_wp2_with fail
   refine (HBI.out w5 HB6.out).mono ?_;rintro e w7 ⟨rfl,m7,rfl⟩;have HR8:=Za (Kd.dmz HR5.out m7);have HB8:=Za (aSz HB6.out m7);have HZ8:=Za (show W.heap.size<=(w5.drewN m7).heap.size from HB6.out.size);generalize w5.drewN m7=w8 at HR8 HB8 HZ8|-;generalize pre++ [a % 256] =pre2 at HR8 HL2 HT;clear HR5 HB5
   go_wp2_with ((with_reducible refine anz (b:= .append) (xs:= #[.tmp 29, .tmp 33]) rfl ?_);go_must (at_builtin;refine Kd.bxz (Kd.int .u8) (w0:=w8) W.heap.size rfl (.tmp 29) (.tmp 33) 34 5 (.int .u8 0) 1 rfl Tryz.underlying34 kr_ rfl (by decide) (by decide) _ _ (a / 256) [.int .u8 (a / 256)] (fun _=>True) (fun _=>False) rfl rfl rfl (fun _ h=>h.elim) (fun _ _=>trivial) HR8.out (Zw _ _) HZ8.out ?aL ?_;(case aL=>have:=HL2.out;omega));intro v9 w9 ho hb hg hat;have HR9:=Za ho;have HB9:=Za hb;clear ho hb hg hat;skip)
   go_roundw
   case rel=>exact ⟨k+1,by omega,by go_num,⟨by rw [HT.out];exact HR9.out⟩,⟨HB8.out.trans HB9.out⟩⟩
   case measure=>simp [intOf];omega
 ·obtain rfl:k=n:=by omega
  have HE:=Za (show l.take k=l from List.take_of_length_le (by have:=HLEN.out;omega));rw [HE.out] at HR;go_wp2;go_ret2;exact ⟨_,rfl,HR.out,HB.out⟩
def mapTo (f:Int->Int) (row:List Int) (j:Nat):List Int:=(row.take j).map f++row.drop j
theorem mapTo_zero (f:Int->Int) (row:List Int):mapTo f row 0=row:=by simp [mapTo]
theorem mapTo_full (f:Int->Int) (row:List Int):mapTo f row row.length=row.map f:=by simp [mapTo]
theorem mapTo_at (f:Int->Int) (row:List Int) (j:Nat) (x:Int) (h:row[j]?=some x):(mapTo f row j)[j]?=some x:=by
 have hi:=(Zk h).1;unfold mapTo;rw [List.getElem?_append_right (by simp;omega)];simp only [List.length_map,List.length_take,List.getElem?_drop];rw [show j+(j - min j row.length)=j by omega];exact h
theorem mapTo_step (f:Int->Int) (row:List Int) (j:Nat) (x:Int) (h:row[j]?=some x):(mapTo f row j).set j (f x)=mapTo f row (j+1):=by
 obtain ⟨hi,e⟩:=Zk h;unfold mapTo;rw [List.set_append_right _ _ (by simp;omega),List.length_map,List.length_take,show j - min j row.length=0 by omega,List.drop_eq_getElem_cons hi,Zh,List.take_add_one,h,List.map_append,List.append_assoc];rfl
def mulB (wb c:Int) (b:List Int):List Int:=bytesF wb ((wordsF wb b).map (gmul wb c))
theorem faz (wb:Int) (b:List Int):(wordsF wb b).length=b.length / wN wb:=ejz _ _ _
theorem rWords.ok (g : Nat) (wb p : Int) (S : Nat -> Prop) (A : Option Addr) (c : Nat) (b : List Int) (W : World) (hw : wb = 8 \/ wb = 16) (hF : Fd W g wb p S) (hb : Kd.C (Kd.int .u8) W A b.length b) (hl : b.length <= 1000000) (hd : b.length % wN wb = 0) :
  Calls Tryz.prog 101 #[.pointer (some ⟨g,0,none⟩), .slice A b.length c] W (WordsOk W (wordsF wb b)):=by
 rcases hw with rfl|rfl
 ·exact rWords.ok8 g p S A c b W hF hb hl
 ·exact rWords.ok16 g p S A c b W hF hb hl hd
theorem rMul.badw (g : Nat) (wb p c : Int) (S : Nat -> Prop) (A : Option Addr) (cc : Nat) (b : List Int) (W : World) (hw : wb = 8 \/ wb = 16) (hF : Fd W g wb p S) (hl : b.length <= 1000000) (hd : b.length % wN wb ≠ 0) :
  Calls Tryz.prog 69 #[.pointer (some ⟨g,0,none⟩), .int .i64 c, .slice A b.length cc] W fun e w'=>e= .returned (.tuple #[.slice none 0 0, .int .i64 1])/\Drawn0 W w':=by
 have HC:=Za (rWords.bad g wb p S A cc b W hw hF hl hd);clear hw hF hl hd;go_enter Tryz.func69,Tryz.ntmps69
 go_wp2_with fail
 refine HC.out.mono ?_;rintro e w1 ⟨rfl,m1,rfl⟩;go_wp2;go_ret2;exact ⟨rfl,Drawn0.step (Drawn0.refl _) _⟩
theorem rMul.ok (g : Nat) (wb c : Int) (S : Nat -> Prop) (A : Option Addr) (cc : Nat) (b : List Int) (W : World) (hw : wb = 8 \/ wb = 16) (hF : Fd W g wb (fpoly wb) S) (hS : ∀ k, S k -> k < W.heap.size) (hb : Kd.C (Kd.int .u8) W A b.length b) (hl : b.length <= 1000000) (hd : b.length % wN wb = 0) (hc : inF wb c = true) :
  Calls Tryz.prog 69 #[.pointer (some ⟨g,0,none⟩), .int .i64 c, .slice A b.length cc] W fun e w'=> ∃v,e= .returned (.tuple #[v, .int .i64 0])/\(Kd.int .u8).R 5 w' W.heap.size (fun _=>True) v (mulB wb c b)/\Fd w' g wb (fpoly wb) S/\BB W w' g:=by
 have HWD:=Za (rWords.ok g wb (fpoly wb) S A cc b W hw hF hb hl hd);have HF0:=Za hF;have HW:=Za hw;have HS:=Za hS;have HCI:=Za hc
 have hwl:(wordsF wb b).length<=1000000:=by
  rw [faz];exact Zt (Nat.div_le_self _ _) hl
 obtain ⟨res,hres⟩: ∃r,mulB wb c b=r:=⟨_,rfl⟩;have HRES:=Za hres;rw [hres];unfold mulB at HRES;generalize wordsF wb b=l at HWD hwl HRES;generalize b.length=bl at HWD|-;clear hF hw hS hc hres hb hl hd;obtain ⟨n,hn⟩: ∃n,l.length=n:=⟨_,rfl⟩;have HLEN:=Za hn;rw [hn] at hwl;clear hn;go_enter Tryz.func69,Tryz.ntmps69
 go_wp2_with fail
 refine HWD.out.mono ?_;rintro e w1 ⟨lb,rfl,q1,q2,q3⟩;rw [HLEN.out];have HX1:=Za (show w1.heap[lb]?=some (.cells (nums .i64 (mapTo (gmul wb c) l 0)).toArray 3 (0,0)) by rw [mapTo_zero];exact q1);have HLB:=Za q2;have HB1:=Za (BB.of_below q3 g);have HF1:=Za (show Fd w1 g wb (fpoly wb) (fun q=>S q\/q=lb) from ((HF0.out.more).below q3).thin (fun q _ hs=>hs.elim .inl (fun e=> .inr (by omega))));have HGL:=Za (show lb≠g by have:=HF0.out.lt;omega);have HRN:=Za (rin.calls g wb (fpoly wb) c (fun q=>S q\/q=lb) w1 HW.out HF1.out);rw [HCI.out] at HRN;clear q1 q2 q3 HWD HF0
 go_wp2_with fail
 refine HRN.out.mono ?_;rintro e w2 ⟨rfl,m2,rfl⟩;have HX2:=Za (show (w1.drewN m2).heap[lb]?=some (.cells (nums .i64 (mapTo (gmul wb c) l 0)).toArray 3 (0,0)) from HX1.out);have HB2:=Za (HB1.out.drewN m2);have HF2:=Za (HF1.out.drewN m2);generalize w1.drewN m2=w2 at HX2 HB2 HF2|-;clear HX1 HB1 HF1 HRN;go_wp2
 go_loopw [28] (fun iv wr=> ∃k:Nat,k<=n/\iv= .int .i64 (k:Int)/\Aside0 (wr.heap[lb]?=some (.cells (nums .i64 (mapTo (gmul wb c) l k)).toArray 3 (0,0)))/\Aside0 (BB W wr g)/\Aside0 (Fd wr g wb (fpoly wb) (fun q=>S q\/q=lb))) (fun iv _=>n - (intOf iv).toNat)
 case atStart=>exact ⟨0,Nat.zero_le _,rfl,HX2,HB2,HF2⟩
 clear HX2 HB2 HF2;obtain ⟨w3,rfl⟩: ∃w3,w3=wr:=⟨_,rfl⟩;obtain ⟨k,hk,rfl,HX,HB,HF⟩:=hrel;by_cases hlt:k<n
 ·obtain ⟨x,hx⟩: ∃x,l[k]?=some x:=⟨_,Zf (by have:=HLEN.out;omega)⟩;have hcx:w3.cell? ⟨lb,k,none⟩=some (.int .i64 x):=(aaz HX.out k).trans (d4z .i64 _ _ _ (mapTo_at _ _ _ _ hx));have HST:=Za (mapTo_step (gmul wb c) l k x hx)
  have HMU:=Za (cOz.calls g (fun q=>S q\/q=lb) wb c x w3 HW.out HF.out (fun q hq=>by
   rcases hq with hq|rfl
   ·exact Zp (HS.out q hq) HB.out.size
   ·exact aPz HX.out))
  have HXB:=Za (show∀w4,BB w3 w4 g->w4.heap[lb]?=some (.cells (nums .i64 (mapTo (gmul wb c) l k)).toArray 3 (0,0)) from fun w4 h=>(h.block lb (aPz HX.out) HGL.out).trans HX.out);have HAT:=Za (mapTo_at (gmul wb c) l k x hx);have k1:(0:Int)<=(k:Int):=by omega
  have k2:(k:Int)<(n:Int):=by omega
  clear hx
  go_wp2_with fail
  refine HMU.out.mono ?_;rintro e w4 ⟨rfl,f1,f2⟩;have HX4:=Za (HXB.out w4 f2);have hc4:w4.cell? ⟨lb,k,none⟩=some (.int .i64 x):=(aaz HX4.out k).trans (d4z .i64 _ _ _ HAT.out);have hf4:=a6z HX4.out k;have HX5:=Za (dHz HX4.out k (gmul wb c x) HST.out);have HB5:=Za ((HB.out.trans f2).new HLB.out k (.int .i64 (gmul wb c x)));have HF5:=Za (f1.set (q:=⟨lb,k,none⟩) (.inr rfl) (.int .i64 (gmul wb c x)));clear f1 f2 hcx HMU;go_wp2;go_roundw
  case rel=>exact ⟨k+1,by omega,by go_num,HX5,HB5,HF5⟩
  case measure=>simp [intOf];omega
 ·obtain rfl:k=n:=by omega
  have HE:=Za (show mapTo (gmul wb c) l k=l.map (gmul wb c) by rw [<-HLEN.out];exact mapTo_full _ _);rw [HE.out] at HX;have hC:=C_nums HX.out (by simp;have:=HLEN.out;omega);rw [List.length_map,HLEN.out] at hC
  have HBY:=rBytes.calls g wb (fpoly wb) (fun q=>S q\/q=lb) (some ⟨lb,0,none⟩) k (l.map (gmul wb c)) w3 HW.out HF.out (by rw [List.length_map,HLEN.out];exact hC) (by rw [List.length_map,HLEN.out];omega) (fun a ha=>by
   obtain ⟨y, -,rfl⟩:=List.mem_map.1 ha
   exact bQz HW.out _ _)
  rw [HRES.out,List.length_map,HLEN.out] at HBY;have HBYS:=Za HBY;clear hC HBY
  go_wp2_with fail
  refine HBYS.out.mono ?_;rintro e w4 ⟨v,rfl,r1,r2⟩;have R1:=Za (Kd.bDz r1 HB.out.size);have R2:=Za (HF.out.below r2);have R3:=Za (HB.out.trans (BB.of_below r2 g));clear r1 r2;go_wp2;go_ret2;exact ⟨_,rfl,R1.out,R2.out.thin (fun q _ h=> .inl h),R3.out⟩
def evB (wb:Int) (b:List Int):Bool:=b.length % wN wb==0
def dotB (K:Nat) (wb:Int) (c:List Int) (rows:List (List Int)):Option (List Int×Int):=if rows.all (evB wb)=true then aOz.f K (List.zipWith (mulB wb) c rows) else some ([],1)
theorem S_joinK {k : IntKind} {wq w2 : World} {g B e t gt : Nat} {gcs : Array Value} {u uv : Value} {xs : List (List Int)} {R : List Int} (HO : Kd.S (dM e k) t wq B (fun _ => True) u xs) (hg : wq.heap[g]? = some (.cells gcs gt (0, 0))) (ht : ∀ q, q ∈ t :: (dM e k).E -> q ≠ gt) (hb : BB wq w2 g) (hR : (Kd.int k).R e w2 wq.heap.size (fun _ => True) uv R) (hB : B <= wq.heap.size) :
    Kd.S (dM e k) t w2 B (fun k'=>True/\ ¬wq.heap.size<=k') u xs/\(dM e k).M w2 B (fun k'=>wq.heap.size<=k') R [uv] /\(∀k',wq.heap.size<=k'->True/\some k'≠u.ownBlock):=
  ⟨Kd.cGz (Kd.ebz (Kd.bFz (Kd.eoz HO hg ht)) (fun q hq=>hb.block q hq.2.2.1 hq.1.2)) (fun q hq=>⟨trivial,by have:=hq.2.2.1;omega⟩),
   ⟨_,rfl,Kd.bDz (Kd.aJz (Kd.bTz hR) (fun q hq=>hq.2.1)) hB⟩,
   fun q hq=>⟨trivial,fun e=>by have:=Kd.R_lt (Kd.S_R HO) q e.symm;omega⟩⟩
theorem BB.dyz {W a b:World} {g:Nat} (h:BB W a g) (k:Below W.heap.size a b):BB W b g:=
 ⟨k.os.trans h.os,k.tape.trans h.tape,k.output.trans h.output,Zt h.size k.size,fun i hi hg=>(k.block i hi).trans (h.block i hi hg)⟩
theorem Fd.grown {W W1:World} {g:Nat} {wb p:Int} {S:Nat->Prop} {v:Value} {t:Nat} (h:Fd W g wb p S) (hg:W.grownBy W1 v.ownBlock) (ht: ∀k,v.ownBlock=some k-> ∃cells,W.heap[k]?=some (.cells cells t (0,0))) (h1:t≠172) (h2:t≠3):Fd W1 g wb p S:=by
 have key: ∀(k:Nat) (cs:Array Value) (q:Nat),q≠t->W.heap[k]?=some (.cells cs q (0,0))->W1.heap[k]?=some (.cells cs q (0,0)):=fun k cs q hq hk=>(hg.block k (aPz hk) (fun e=>by
  obtain ⟨c2,hc2⟩:=ht k e.symm;rw [hk] at hc2;injection hc2 with hc2
  injection hc2 with _ hc2
  exact hq hc2)).trans hk
 obtain ⟨n1,h|⟨e1,e2,a,b,ha,hb,hc,n2,n3⟩⟩:=h
 ·exact ⟨n1, .inl (key _ _ _ (Ne.symm h1) h)⟩
 ·exact ⟨n1, .inr ⟨e1,e2,a,b,key _ _ _ (Ne.symm h1) ha,key _ _ _ (Ne.symm h2) hb,key _ _ _ (Ne.symm h2) hc,n2,n3⟩⟩
theorem zip_take_succ {α β γ:Type} (f:α->β->γ) (a:List α) (b:List β) (k:Nat) (x:α) (y:β) (hx:a[k]?=some x) (hy:b[k]?=some y):List.zipWith f (a.take (k+1)) (b.take (k+1))=List.zipWith f (a.take k) (b.take k)++ [f x y] :=by
 have h1:=(Zk hx).1;have h2:=(Zk hy).1;rw [List.take_add_one,List.take_add_one,hx,hy,List.zipWith_append (by simp;omega)];rfl
theorem rDot.calls (g : Nat) (wb : Int) (S : Nat -> Prop) (C A : Option Addr) (cc ca K : Nat) (c : List Int) (rows : List (List Int)) (r1 : List Int) (r2 : Int) (W : World) (hw : wb = 8 \/ wb = 16) (hF : Fd W g wb (fpoly wb) S) (hS : ∀ k, S k -> k < W.heap.size)
  (hc:Kd.F (Kd.int .i64) W (NotG g) C c.length c) (hr:Kd.F (dM 5 .u8) W (NotG g) A rows.length rows) (hin: ∀x,x∈c->inF wb x=true) (hlen:c.length=rows.length) (h0:0<rows.length) (hsz: ∀r,r∈rows->r.length<=1000000) (hn:rows.length<=1000) (h:dotB K wb c rows=some (r1,r2)):
  Calls Tryz.prog 47 #[.pointer (some ⟨g,0,none⟩), .slice C c.length cc, .slice A rows.length ca] W fun e w'=> ∃v,e= .returned (.tuple #[v, .int .i64 r2])/\(Kd.int .u8).R 5 w' W.heap.size (fun _=>True) v r1/\Fd w' g wb (fpoly wb) S/\BB W w' g:=by
 have HF0:=Za hF;have HW:=Za hw;have HS:=Za hS;have HC:=Za hc;have HR:=Za hr;have HIN:=Za hin;have HSZ:=Za hsz;have HH:=Za h;obtain ⟨n,hnn⟩: ∃n,rows.length=n:=⟨_,rfl⟩;have HL1:=Za (hlen.trans hnn);have HL2:=Za hnn;rw [hlen] at HC|-;rw [hnn] at HC HR hn h0|-;have z1:((n:Int)==0)=false:=by simp;omega
 have z2:((n:Int) !=(n:Int))=false:=by simp
 clear hw hF hS hc hr hin hsz h hlen hnn;go_enter Tryz.func47,Tryz.ntmps47;go_wp2
 go_loopw [8,25] (fun v iv wr=> ∃k:Nat,k<=n/\iv= .int .i64 (k:Int)/\Aside0 (Kd.S (dM 5 .u8) 34 wr W.heap.size (fun _=>True) v (List.zipWith (mulB wb) (c.take k) (rows.take k)))/\Aside0 (BB W wr g)/\Aside0 (Fd wr g wb (fpoly wb) S)/\Aside0 ((rows.take k).all (evB wb)=true)) (fun _ iv _=>n - (intOf iv).toNat)
 case atStart=>exact ⟨0,Nat.zero_le _,rfl,⟨Kd.S_nil _ _ _ _ _⟩,⟨BB.refl _ _⟩,HF0,⟨rfl⟩⟩
 clear HF0 z1 z2;obtain ⟨w3,rfl⟩: ∃w3,w3=wr:=⟨_,rfl⟩;obtain ⟨k,hk,rfl,HO,HB,HF,HEV⟩:=hrel;by_cases hlt:k<n
 ·obtain ⟨x,hx⟩: ∃x,c[k]?=some x:=⟨_,Zf (by have:=HL1.out;omega)⟩;obtain ⟨b,hb⟩: ∃b,rows[k]?=some b:=⟨_,Zf (by have:=HL2.out;omega)⟩;obtain ⟨ad,A',c',rfl,hcb,hlb,hCb⟩:=b5z (Kd.F_now (F_bb (HL2.out.symm▸HR.out) HB.out)) k b hb;obtain ⟨cd,rfl,hcx⟩:=cHz (Kd.F_now (F_bb (HL1.out.symm▸HC.out) HB.out)) k x hx;have HCB:=Za hCb;have HI:=Za (HIN.out x (Zo hx));have HBL:=Za (HSZ.out b (Zo hb));have HZ:=Za (zip_take_succ (mulB wb) c rows k x b hx hb);have HEV1:=Za (show (rows.take (k+1)).all (evB wb)=((rows.take k).all (evB wb)&&evB wb b) by rw [List.take_add_one,hb];simp)
  have HALL:=Za (show evB wb b=false->rows.all (evB wb)=false from fun h=>by
   rw [List.all_eq_false]
   exact ⟨b,Zo hb,by rw [h];decide⟩)
  have HS3:=Za (show∀q,S q->q<w3.heap.size from fun q hq=>Zp (HS.out q hq) HB.out.size);have k1:(0:Int)<=(k:Int):=by omega
  have k2:(k:Int)<(n:Int):=by omega
  clear hx hb hlb hCb;by_cases hev:evB wb b=true
  ·have HMU:=Za (rMul.ok g wb x S A' c' b w3 HW.out HF.out HS3.out HCB.out HBL.out (by simpa [evB] using hev) HI.out);have HE2:=Za (show (rows.take (k+1)).all (evB wb)=true by rw [HEV1.out,HEV.out,hev];rfl);clear hev
   go_wp2_with fail
   refine HMU.out.mono ?_;rintro e w4 ⟨v4,rfl,q1,q2,q3⟩;obtain ⟨gcs,hgcs⟩:=Fd.cells HF.out;have hj:=S_joinK HO.out hgcs (by decide) q3 q1 HB.out.size;have HLZ:=Za (show (List.zipWith (mulB wb) (c.take k) (rows.take k)).length<=1000 by simp;omega);obtain ⟨va,vc,rfl⟩:=Kd.aRz q1;generalize List.zipWith (mulB wb) (c.take k) (rows.take k)=pre at HO hj HLZ HZ
   generalize (mulB wb x b).length=nm at *
   generalize mulB wb x b=R at hj HZ;have HS1:=Za hj.1;have HM1:=Za hj.2.1;have HOK:=Za hj.2.2;have HSW:=Za (show W.heap.size<=w4.heap.size from Zt HB.out.size q3.size);have HB4:=Za (HB.out.trans q3);have HF4:=Za q2;have HTY:=Za (Kd.bNz hj.1);clear q1 q2 q3 hj hgcs HMU HCB hcb hcx HO
   go_wp2_with ((with_reducible refine anz (b:= .append) (xs:= #[.tmp 43, .tmp 45]) rfl ?_);go_must (at_builtin;refine Kd.bLz (dM 5 .u8) (w0:=w4) W.heap.size rfl (.tmp 43) (.tmp 45) 24 34 (.slice none 0 0) 24 rfl Tryz.underlying24 kr_ rfl (by decide) (by decide) _ _ R [.slice va nm vc] (fun _=>True) (fun k'=>w3.heap.size<=k') rfl rfl HM1.out HOK.out (fun _ _=>trivial) HS1.out (Zw _ _) HSW.out ?aL ?_;(case aL=>have:=HLZ.out;omega));intro v2 w5 ho2 hb2 hg2 hat2;have HO5:=Za ho2;have HB5:=Za hb2;have HG5:=Za (show w4.grownBy w5 u8.ownBlock from hg2);clear ho2 hb2 hg2 hat2)
   go_roundw
   case rel=>exact ⟨k+1,by omega,by go_num,⟨by rw [HZ.out];exact HO5.out⟩,⟨HB4.out.dyz HB5.out⟩,⟨HF4.out.grown HG5.out HTY.out (by decide) (by decide)⟩,HE2⟩
   case measure=>simp [intOf];omega
  ·have hev':evB wb b=false:=by simpa using hev
   have HMU:=Za (rMul.badw g wb (fpoly wb) x S A' c' b w3 HW.out HF.out HBL.out (by simpa [evB] using hev'))
   have HRES:=Za (show r1= [] /\r2=1 by
    have h:=HH.out;unfold dotB at h;rw [Yb (by rw [HALL.out hev'];decide)] at h;simp only [Zx,Zy] at h
    exact ⟨h.1.symm,h.2.symm⟩)
   clear hev hev'
   go_wp2_with fail
   refine HMU.out.mono ?_;rintro e w4 ⟨rfl,m4,rfl⟩;go_wp2;go_ret2;refine ⟨.slice none 0 0,?_,?_,HF.out.drewN m4,HB.out.drewN m4⟩
   ·rw [HRES.out.2];rfl
   ·rw [HRES.out.1];exact Kd.R_nil _ _ _ _ _
 ·obtain rfl:k=n:=by omega
  have e1:c.take k=c:=List.take_of_length_le (by rw [HL1.out];exact Zv _);have e2:rows.take k=rows:=List.take_of_length_le (by rw [HL2.out];exact Zv _);rw [e1,e2] at HO;rw [e2] at HEV;have h:=HH.out;unfold dotB at h;rw [Ya HEV.out] at h;have HSUM:=Za h;generalize List.zipWith (mulB wb) c rows=pr at HO HSUM;obtain ⟨PA,pc,rfl,hpl,hpc⟩:=Kd.S_reads HO.out;have HPS:=Za (aOz.calls K PA pc pr r1 r2 w3 hpc hpl HSUM.out);clear h e1 e2 hpl hpc
  generalize pr.length=np at *
  go_wp2_with fail
  refine HPS.out.mono ?_;rintro e w4 ⟨v,rfl,s1,s2⟩;have R1:=Za (Kd.bDz s1 HB.out.size);have R2:=Za (HF.out.below s2);have R3:=Za (HB.out.trans (BB.of_below s2 g));clear s1 s2;go_wp2;go_ret2;exact ⟨_,rfl,R1.out,R2.out,R3.out⟩
def aLz.l (K:Nat) (wb:Int) (data:List (List Int)):List (List Int)->List (List Int)->Option (List (List Int)×Int)
 | [],acc=>some (acc,0)
 |row::rs,acc=>(dotB K wb row data).bind fun t=>if t.2=0 then aLz.l K wb data rs (acc++ [t.1]) else some ([],1)
def aLz.small (l:List (List Int)):Bool:=decide (l.length<=1000)&&l.all (fun r=>decide (r.length<=1000000))
def aLz.f (k:Nat) (a0_0 a0_1 a0_2:Int) (l1:List (List Int)):Option (List (List Int)×Int):=
 (aDz.f a0_0 a0_1 a0_2).bind fun b=>if b=true then (if (l1.length:Int)=a0_1 then (if aLz.small l1=true then aLz.l k (pbits a0_0) l1 (parM a0_0 a0_1.toNat a0_2.toNat) [] else none) else some ([],1)) else some ([],1)
theorem C_F {α:Type} {d:Kd α} (hd:Kd.Heap d) {W:World} {A:Option Addr} {n:Nat} {xs:List α} (h:d.C W A n xs):Kd.F d W (fun k=>k<W.heap.size) A n xs:=fun W' hW=>hd.C (fun k hk=>hW k hk hk) h
theorem codec_Parity1.calls (g bf bd : Nat) (wb : Int) (S : Nat -> Prop) (C A : Option Addr) (cc ca K : Nat) (c : List Int) (rows : List (List Int)) (r1 : List Int) (r2 : Int) (W : World) (hw : wb = 8 \/ wb = 16) (hF : Fd W g wb (fpoly wb) S) (hS : ∀ k, S k -> k < W.heap.size)
  (hbf:W.heap[bf]?=some (.cells #[.pointer (some ⟨g,0,none⟩)] 72 (0,0))) (hbd:W.heap[bd]?=some (.cells #[.slice A rows.length ca] 24 (0,0)))
  (hc:Kd.F (Kd.int .i64) W (NotG g) C c.length c) (hr:Kd.F (dM 5 .u8) W (NotG g) A rows.length rows) (hin: ∀x,x∈c->inF wb x=true) (hlen:c.length=rows.length) (h0:0<rows.length) (hsz: ∀r,r∈rows->r.length<=1000000) (hn:rows.length<=1000) (h:dotB K wb c rows=some (r1,r2)):
  Calls Tryz.prog 46 #[.slice C c.length cc, .pointer (some ⟨bf,0,none⟩), .pointer (some ⟨bd,0,none⟩)] W fun e w'=> ∃v,e= .returned (.tuple #[v, .int .i64 r2])/\(Kd.int .u8).R 5 w' W.heap.size (fun _=>True) v r1/\Fd w' g wb (fpoly wb) S/\BB W w' g:=by
 have HD:=Za (rDot.calls g wb S C A cc ca K c rows r1 r2 W hw hF hS hc hr hin hlen h0 hsz hn h);have c1:W.cell? ⟨bf,0,none⟩=some (.pointer (some ⟨g,0,none⟩)):=(aaz hbf 0).trans rfl;have c2:W.cell? ⟨bd,0,none⟩=some (.slice A rows.length ca):=(aaz hbd 0).trans rfl;generalize rows.length=n at HD c2;generalize c.length=m at HD|-;clear hw hF hS hbf hbd hc hr hin hlen h0 hsz hn h;go_enter Tryz.func46,Tryz.ntmps46
 go_wp2_with fail
 refine HD.out.mono ?_;rintro e w1 ⟨v,rfl,q1,q2,q3⟩;have Q1:=Za q1;have Q2:=Za q2;have Q3:=Za q3;clear q1 q2 q3;go_wp2;go_ret2;exact ⟨_,rfl,Q1.out,Q2.out,Q3.out⟩
theorem aLz.nomay (p k m : Int) (A : Option Addr) (c : Nat) (l : List (List Int)) (W : World) (h : aDz.f p k m = some false) :
  Calls Tryz.prog 19 #[.agg #[.int .i64 p, .int .i64 k, .int .i64 m], .slice A l.length c] W fun e w'=>e= .returned (.tuple #[.slice none 0 0, .int .i64 1])/\Below W.heap.size W w':=by
 have HP:=Za (fun w=>cZz.no p k m w h);have hu:=Tryz.underlying23;generalize l.length=n;clear h;go_enter Tryz.func19,Tryz.ntmps19
 go_wp2_with fail
 refine (HP.out _).mono ?_;rintro e w1 ⟨rfl,hB⟩;have HB:=Za (show Below W.heap.size W w1 from (alz (alz (Zw _ _) _) _).trans (hB.mono (by simp;omega)));clear hB;go_wp2;go_ret2;exact ⟨rfl,HB.out⟩
theorem aLz.nolen (p k m : Int) (A : Option Addr) (c : Nat) (l : List (List Int)) (W : World) (h : aDz.f p k m = some true) (hl : (l.length : Int) ≠ k) :
  Calls Tryz.prog 19 #[.agg #[.int .i64 p, .int .i64 k, .int .i64 m], .slice A l.length c] W fun e w'=>e= .returned (.tuple #[.slice none 0 0, .int .i64 1])/\Below W.heap.size W w':=by
 have HP:=Za (fun w=>cZz.ok p k m w h);have hu:=Tryz.underlying23;generalize l.length=n at hl|-;generalize parM p k.toNat m.toNat=M at HP;have hne:((n:Int) !=k)=true:=by simpa using hl
 have hb1:=heap_alloc_new W (.cells #[.int .i64 p, .int .i64 k, .int .i64 m] 23);have hb2:=heap_alloc_new (W.alloc (.cells #[.int .i64 p, .int .i64 k, .int .i64 m] 23)) (.cells #[.slice A n c] 24);have hb1':((W.alloc (.cells #[.int .i64 p, .int .i64 k, .int .i64 m] 23)).alloc (.cells #[.slice A n c] 24)).heap[W.heap.size]?=some (.cells #[.int .i64 p, .int .i64 k, .int .i64 m] 23 (0,0)):=awz hb1 (alz (Zw _ _) _);have HX1:=Za hb1';have HX2:=Za hb2;have HB:=Za (show Below W.heap.size W ((W.alloc (.cells #[.int .i64 p, .int .i64 k, .int .i64 m] 23)).alloc (.cells #[.slice A n c] 24)) from alz (alz (Zw _ _) _) _);clear h hl hb1 hb2 hb1';go_enter Tryz.func19,Tryz.ntmps19
 go_wp2_with fail
 generalize (W.alloc (.cells #[.int .i64 p, .int .i64 k, .int .i64 m] 23)).alloc (.cells #[.slice A n c] 24)=w1 at HX1 HX2 HB|-;refine (HP.out w1).mono ?_;rintro e w2 ⟨B,bc,rfl, -, -,hB⟩;have HB2:=Za (HB.out.trans (hB.mono HB.out.size));have c1:w2.cell? ⟨W.heap.size,1,none⟩=some (.int .i64 k):=(aaz (awz HX1.out hB) 1).trans rfl
 have c2:w2.cell? ⟨W.heap.size+1,0,none⟩=some (.slice A n c):=by
  have:=(aaz (awz HX2.out hB) 0);simp at this;exact this
 clear hB;go_wp2;go_ret2;exact ⟨rfl,HB2.out⟩
theorem aLz.go (K : Nat) (p k m : Int) (A : Option Addr) (c : Nat) (l : List (List Int)) (r1 : List (List Int)) (r2 : Int) (W : World) (h : aDz.f p k m = some true) (hl : (l.length : Int) = k) (hr : Kd.C (dM 5 .u8) W A l.length l) (hsm : aLz.small l = true)
  (hL:aLz.l K (pbits p) l (parM p k.toNat m.toNat) [] =some (r1,r2)):
  Calls Tryz.prog 19 #[.agg #[.int .i64 p, .int .i64 k, .int .i64 m], .slice A l.length c] W fun e w'=> ∃v,e= .returned (.tuple #[v, .int .i64 r2])/\Kd.S (dM 5 .u8) 34 w' W.heap.size (fun _=>True) v r1/\Below W.heap.size W w':=by
 obtain ⟨p1,p2,k1,k2,m1,m2⟩:=cvz h;have HP:=Za (fun w=>cZz.ok p k m w h);have HFD:=Za (dkz.calls p ⟨p1,p2⟩);have HPB:=Za (djz p);have hgd:=dgz p k.toNat m.toNat (by omega) (by omega) (by omega) (by omega)
 have HSM:=Za (show l.length<=1000/\ ∀r,r∈l->r.length<=1000000 by
  simp only [aLz.small,Bool.and_eq_true,decide_eq_true_eq,List.all_eq_true] at hsm
  exact hsm)
 have hu:=Tryz.underlying23;obtain ⟨n,hn⟩: ∃n,l.length=n:=⟨_,rfl⟩;have HLN:=Za hn;obtain rfl:k=(n:Int):=by omega
 simp only [Zu] at HP hgd hL;obtain ⟨mm,hmm⟩: ∃mm,m.toNat=mm:=⟨_,rfl⟩;rw [hmm] at HP hgd hL;have mm4:mm<=4:=by omega
 have HGD:=Za hgd;have HL:=Za hL;have HR:=Za (C_F (Kd.dSz _ (Kd.dhz _)) hr);rw [hn] at HR|-;generalize parM p n mm=M at HP HGD HL;generalize pbits p=wb at HFD HPB HL HGD;have hself:((n:Int) !=(n:Int))=false:=by simp
 have n1:1<=n:=by omega
 have n2:n<=8:=by omega
 have HW:=Za (show W.heap.size=W.heap.size from rfl);have hb1:=heap_alloc_new W (.cells #[.int .i64 p, .int .i64 (n:Int), .int .i64 m] 23);have hb2:=heap_alloc_new (W.alloc (.cells #[.int .i64 p, .int .i64 (n:Int), .int .i64 m] 23)) (.cells #[.slice A n c] 24);have hb1':((W.alloc (.cells #[.int .i64 p, .int .i64 (n:Int), .int .i64 m] 23)).alloc (.cells #[.slice A n c] 24)).heap[W.heap.size]?=some (.cells #[.int .i64 p, .int .i64 (n:Int), .int .i64 m] 23 (0,0)):=awz hb1 (alz (Zw _ _) _);have HX1:=Za hb1';have HX2:=Za (show ((W.alloc (.cells #[.int .i64 p, .int .i64 (n:Int), .int .i64 m] 23)).alloc (.cells #[.slice A n c] 24)).heap[W.heap.size+1]?=some (.cells #[.slice A n c] 24 (0,0)) by simpa using hb2);have HB:=Za (show Below W.heap.size W ((W.alloc (.cells #[.int .i64 p, .int .i64 (n:Int), .int .i64 m] 23)).alloc (.cells #[.slice A n c] 24)) from alz (alz (Zw _ _) _) _);clear h hl hb1 hb2 hb1' hgd hL hr hn p1 p2 k1 k2 hmm hsm
 go_enter Tryz.func19,Tryz.ntmps19
 go_wp2_with fail
 generalize (W.alloc (.cells #[.int .i64 p, .int .i64 (n:Int), .int .i64 m] 23)).alloc (.cells #[.slice A n c] 24)=w1 at HX1 HX2 HB|-;refine (HP.out w1).mono ?_;rintro e w2 ⟨B,bc,rfl, -,hC2,hB⟩;have HB2:=Za (HB.out.trans (hB.mono HB.out.size));have HY1:=Za (awz HX1.out hB);have HY2:=Za (awz HX2.out hB);have HM2:=Za (Kd.bZz (Kd.dwz hC2) (fun q hq=>hq.2));have c0:w2.cell? ⟨W.heap.size,0,none⟩=some (.int .i64 p):=(aaz HY1.out 0).trans rfl;have c1:w2.cell? ⟨W.heap.size,1,none⟩=some (.int .i64 (n:Int)):=(aaz HY1.out 1).trans rfl;have c2:w2.cell? ⟨W.heap.size+1,0,none⟩=some (.slice A n c):=(aaz HY2.out 0).trans rfl;have HML:=Za (show M.length=mm from HGD.out.2);clear hB hC2 HP HX1 HX2 HB;have hmf: ∀(fn:Fn) (first cap:Array Value) (w:World),(Instr.makeFunc fn first cap).run Tryz.prog w= .ok (.func fn first cap) w:=fun _ _ _ _=>rfl
 go_wp2_with fail
 refine (HFD.out w2).mono ?_;rintro e w3 ⟨g,rfl,q1,q2,q3⟩;have HB3:=Za (HB2.out.trans (q3.mono HB2.out.size));have HZ2:=Za (awz HY2.out q3);have HFR:=Za (q1.fd (fun _=>False) (fun h=>h));have HM3:=Za (show Kd.F (dM 3 .i64) w3 (NotG g) B mm M from Kd.bZz (Kd.cEz HM2.out q3) (fun q hq=>by show q≠g;omega));have HD3:=Za (show Kd.F (dM 5 .u8) w3 (NotG g) A n l from Kd.bZz (Kd.cmz HR.out (fun q hq _=>HB3.out.block q hq)) (fun q hq=>by show q≠g;have:=HB2.out.size;omega));have HG3:=Za (show W.heap.size<=g from Zt HB2.out.size q2);have HGN:=Za (show W.heap.size+1≠g by have:=aPz HY2.out;omega);clear q1 q2 q3 c0 c1 c2 HM2 HR HY1 HY2 HB2 HFD;go_wp2;obtain ⟨bf,hbf⟩: ∃bf,bf=w3.heap.size:=⟨_,rfl⟩;obtain ⟨bd,hbd⟩: ∃bd,bd=W.heap.size+1:=⟨_,rfl⟩;have HT:=alz (Zw w3.heap.size w3) (.cells #[.pointer (some ⟨g,0,none⟩)] 72);have HBF:=Za (show (w3.alloc (.cells #[.pointer (some ⟨g,0,none⟩)] 72)).heap[bf]?=some (.cells #[.pointer (some ⟨g,0,none⟩)] 72 (0,0)) by rw [hbf];exact heap_alloc_new _ _)
 have HBD:=Za (show (w3.alloc (.cells #[.pointer (some ⟨g,0,none⟩)] 72)).heap[bd]?=some (.cells #[.slice A n c] 24 (0,0)) by rw [hbd];exact awz HZ2.out HT);have HB5:=Za (alz HB3.out (.cells #[.pointer (some ⟨g,0,none⟩)] 72));have HF5:=Za (HFR.out.alloc (.cells #[.pointer (some ⟨g,0,none⟩)] 72));have HM5:=Za (Kd.F_alloc HM3.out (.cells #[.pointer (some ⟨g,0,none⟩)] 72));have HD5:=Za (Kd.F_alloc HD3.out (.cells #[.pointer (some ⟨g,0,none⟩)] 72));have HN1:=Za (show bf≠g by have:=HFR.out.lt;omega);have HN2:=Za (show bd≠g by rw [hbd];exact HGN.out);rw [<-hbf, <-hbd];clear HT hbf hbd HB3 HZ2 HFR HM3 HD3 HGN;generalize w3.alloc (.cells #[.pointer (some ⟨g,0,none⟩)] 72)=w5 at HBF HBD HB5 HF5 HM5 HD5|-
 go_loopw [10,35] (fun v iv wr=> ∃(k:Nat) (acc:List (List Int)),k<=mm/\iv= .int .i64 (k:Int)/\Aside0 (Kd.S (dM 5 .u8) 34 wr w5.heap.size (fun _=>True) v acc)/\Aside0 (BB w5 wr g)/\Aside0 (Fd wr g wb (fpoly wb) (fun _=>False))/\Aside0 (aLz.l K wb l (M.drop k) acc=some (r1,r2))/\acc.length<=k) (fun _ iv _=>mm - (intOf iv).toNat)
 case atStart=>exact ⟨0, [],Nat.zero_le _,rfl,⟨Kd.S_nil _ _ _ _ _⟩,⟨BB.refl _ _⟩,HF5,HL,Nat.zero_le _⟩
 clear HF5 HL;obtain ⟨w6,rfl⟩: ∃w6,w6=wr:=⟨_,rfl⟩;obtain ⟨k,acc,hk,rfl,HO,HB,HF,HL,hacc⟩:=hrel;by_cases hlt:k<mm
 ·obtain ⟨row,hrow⟩: ∃x,M[k]?=some x:=⟨_,Zf (by have:=HML.out;omega)⟩
  have hdr:M.drop k=row::M.drop (k+1):=by
   obtain ⟨h1,h2⟩:=Zk hrow;rw [List.drop_eq_getElem_cons h1,h2]
  have hl:=HL.out;rw [hdr,aLz.l] at hl;obtain ⟨⟨t1,t2⟩,hd,hl2⟩:=Option.bind_eq_some_iff.1 hl;have hgr:=HGD.out.1 row (Zo hrow);have HRL:=Za hgr.1;have hFM:=F_bb HM5.out HB.out;rw [<-HML.out] at hFM;obtain ⟨ad,A',c',rfl,hcr,hlr, -⟩:=b5z (Kd.F_now hFM) k row hrow;obtain ⟨A2,c2,hcr2,hlr2,hFr⟩:=row_atF hFM k row hrow
  obtain ⟨rfl,rfl⟩:A'=A2/\c'=c2:=by
   rw [hcr] at hcr2;injection hcr2 with e
   injection e with e1 e2 e3
   exact ⟨e1,e3⟩
  have HDC:=Za (codec_Parity1.calls g bf bd wb (fun _=>False) A' A c' c K row l t1 t2 w6 HPB.out HF.out (fun _ h=>h.elim) ((HB.out.block bf (aPz HBF.out) HN1.out).trans HBF.out) (by rw [HLN.out];exact (HB.out.block bd (aPz HBD.out) HN2.out).trans HBD.out) hFr (by rw [HLN.out];exact F_bb HD5.out HB.out) (fun x hx=>by
   have:=hgr.2 x hx
   simp [inF,this]) (by rw [HRL.out,HLN.out]) (by rw [HLN.out];omega) HSM.out.2 HSM.out.1 hd)
  have HL2:=Za hl2;rw [HRL.out] at HDC hcr;have k1:(0:Int)<=(k:Int):=by omega
  have k2:(k:Int)<(mm:Int):=by omega
  clear hrow hdr hl hl2 hd hgr hFM hlr hcr2 hlr2 hFr
  go_wp2_with fail
  refine HDC.out.mono ?_;rintro e w7 ⟨v7,rfl,q1,q2,q3⟩;by_cases ht2:t2=0
  ·subst ht2;have HL3:=HL2.out;rw [Ya rfl] at HL3;have HL4:=Za HL3;obtain ⟨gcs,hgcs⟩:=Fd.cells HF.out;have hj:=S_joinK HO.out hgcs (by decide) q3 q1 HB.out.size;obtain ⟨va,vc,rfl⟩:=Kd.aRz q1
   generalize t1.length=nm at *
   have HS1:=Za hj.1;have HM1:=Za hj.2.1;have HOK:=Za hj.2.2;have HSW:=Za (show w5.heap.size<=w7.heap.size from Zt HB.out.size q3.size);have HB7:=Za (HB.out.trans q3);have HF7:=Za q2;have HTY:=Za (Kd.bNz hj.1);have hal:acc.length<=100:=by omega
   clear q1 q2 q3 hj hgcs HDC hcr HO HL3 HL2;have HAL:=Za hal;have HAC:=Za hacc;clear hal hacc
   go_wp2_with ((with_reducible refine anz (b:= .append) (xs:= #[.tmp 47, .tmp 49]) rfl ?_);go_must (at_builtin;refine Kd.bLz (dM 5 .u8) (w0:=w7) w5.heap.size rfl (.tmp 47) (.tmp 49) 24 34 (.slice none 0 0) 24 rfl Tryz.underlying24 kr_ rfl (by decide) (by decide) _ _ t1 [.slice va nm vc] (fun _=>True) (fun k'=>w6.heap.size<=k') rfl rfl HM1.out HOK.out (fun _ _=>trivial) HS1.out (Zw _ _) HSW.out ?aL ?_;(case aL=>have:=HAL.out;omega));intro v2 w8 ho2 hb2 hg2 hat2;have HO8:=Za ho2;have HB8:=Za hb2;have HG8:=Za (show w7.grownBy w8 u10.ownBlock from hg2);clear ho2 hb2 hg2 hat2)
   go_roundw
   case rel=>exact ⟨k+1,acc++ [t1],by omega,by go_num,HO8,⟨HB7.out.dyz HB8.out⟩,⟨HF7.out.grown HG8.out HTY.out (by decide) (by decide)⟩,HL4,by have:=HAC.out;simp;omega⟩
   case measure=>simp [intOf];omega
  ·have hb2:(t2 !=0)=true:=by simpa using ht2
   have HRES:=Za (show r1= [] /\r2=1 by
    have h:=HL2.out;rw [Yb ht2] at h;simp only [Zx,Zy] at h
    exact ⟨h.1.symm,h.2.symm⟩)
   have HB7:=Za (HB.out.trans q3);clear q1 q2 q3 ht2 HDC hcr;go_wp2;go_ret2;refine ⟨.slice none 0 0,?_,?_,HB7.out.below HB5.out HG3.out⟩
   ·rw [HRES.out.2];rfl
   ·rw [HRES.out.1];exact Kd.S_nil _ _ _ _ _
 ·obtain rfl:k=mm:=by omega
  have h:=HL.out;rw [List.drop_of_length_le (by rw [HML.out];exact Zv _),aLz.l] at h;simp only [Zx,Zy] at h;obtain ⟨rfl,rfl⟩:=h;go_wp2;go_ret2;exact ⟨_,rfl,Kd.cJz HO.out HB5.out.size,HB.out.below HB5.out HG3.out⟩
theorem aLz.calls (k:Nat) (a0_0:Int) (a0_1:Int) (a0_2:Int) (A1:Option Addr) (c1:Nat) (l1:List (List Int)) (r1:List (List Int)) (r2:Int) (w:World) (hr1:Kd.C (Kd.slice 5 (Kd.int .u8)) w A1 l1.length l1) (hc1:l1.length<=c1) (h:aLz.f k a0_0 a0_1 a0_2 l1=some (r1,r2)):
 Calls Tryz.prog 19 #[.agg #[.int .i64 a0_0, .int .i64 a0_1, .int .i64 a0_2], .slice A1 l1.length c1] w fun e w'=> ∃v0_:Value,e= .returned (.tuple #[v0_, .int .i64 r2])/\Kd.S (Kd.slice 5 (Kd.int .u8)) 34 w' w.heap.size (fun _=>True) v0_ r1/\Below w.heap.size w w':=by
 unfold aLz.f at h;obtain ⟨b,hb⟩:=may_some a0_0 a0_1 a0_2;rw [hb] at h;simp only [Zl] at h
 have bad: ∀(hh:some (([] :List (List Int)),(1:Int))=some (r1,r2)) (hc:Calls Tryz.prog 19 #[.agg #[.int .i64 a0_0, .int .i64 a0_1, .int .i64 a0_2], .slice A1 l1.length c1] w fun e w'=>e= .returned (.tuple #[.slice none 0 0, .int .i64 1])/\Below w.heap.size w w'),Calls Tryz.prog 19 #[.agg #[.int .i64 a0_0, .int .i64 a0_1, .int .i64 a0_2], .slice A1 l1.length c1] w fun e w'=> ∃v0_:Value,e= .returned (.tuple #[v0_, .int .i64 r2])/\Kd.S (Kd.slice 5 (Kd.int .u8)) 34 w' w.heap.size (fun _=>True) v0_ r1/\Below w.heap.size w w':=by
  intro hh hc;simp only [Zx,Zy] at hh;obtain ⟨rfl,rfl⟩:=hh;refine hc.mono ?_;rintro e w' ⟨rfl,hB⟩;exact ⟨_,rfl,Kd.S_nil _ _ _ _ _,hB⟩
 cases b with
 |false=>exact bad (by simpa using h) (aLz.nomay a0_0 a0_1 a0_2 A1 c1 l1 w hb)
 |true=>
  rw [Ya rfl] at h;by_cases hl:(l1.length:Int)=a0_1
  ·rw [Ya hl] at h;by_cases hs:aLz.small l1=true
   ·rw [Ya hs] at h;exact aLz.go k a0_0 a0_1 a0_2 A1 c1 l1 r1 r2 w hb hl hr1 hs h
   ·rw [Yb hs] at h;cases h
  ·rw [Yb hl] at h;exact bad h (aLz.nolen a0_0 a0_1 a0_2 A1 c1 l1 w hb hl)
def bEz.f (a0_0:Int) (a0_1:Int) (a0_2:Int) (l1:List (List Int)):Option (Bool):=(aDz.f a0_0 a0_1 a0_2).bind fun t581=>(if t581=true then (some ((l1.length:Int)==(wrap64 (a0_1+a0_2)))) else (some false))
theorem bEz.calls (a0_0 : Int) (a0_1 : Int) (a0_2 : Int) (A1 : Option Addr) (c1 : Nat) (l1 : List (List Int)) (r : Bool) (w : World) (hr1 : Kd.C (Kd.slice 5 (Kd.int .u8)) w A1 l1.length l1) (hc1 : l1.length <= c1) (h : bEz.f a0_0 a0_1 a0_2 l1 = some r) :
  Calls Tryz.prog 57 #[.agg #[.int .i64 a0_0, .int .i64 a0_1, .int .i64 a0_2], .slice A1 l1.length c1] w fun e w'=>e= .returned (.bool r)/\Below w.heap.size w w':=by
 have hu23:=Tryz.underlying23;have HR1:=Za hr1;have HC1:=Za hc1;clear hr1 hc1;have HB:=Za (Zw w.heap.size w);have H:=h;clear h;unfold bEz.f at H;obtain ⟨t581,A3,H⟩:=ob_ H
 (try dsimp only at H)
 by_cases c4:t581=true
 ·subst c4;rw [Ya rfl] at H;obtain rfl:=Zn H;go_enter Tryz.func57,Tryz.ntmps57
  go_wp2_with (first|((with_reducible refine blz (N:=2) rfl ?_);(try (refine aYz (by rfl) ?_;dsimp only));refine bx_ 2 #[.int .i64 a0_0, .int .i64 a0_1, .int .i64 a0_2] 23 ?_;intro gb580 hg w5 hbox hb;have n_:=Zb (hs_ HB hb) (Zb (Za (hbox)) (Zb (ag_ HB gb580) (ag_ HB gb580)));clear HB;obtain ⟨HB,BK580,GW580,GE580⟩:=n_;clear hb hbox hg;obtain ⟨_,_,_,_,_,_⟩:=bc3_ BK580.out)|((with_reducible refine abz (f:=41) rfl ?_);refine gl_ (some 6) Tryz.func41 #[.agg #[.int .i64 a0_0, .int .i64 a0_1, .int .i64 a0_2]] ?_;(with_reducible refine (aDz.calls a0_0 a0_1 a0_2 true _ A3.out).mono ?_);rintro e w7 ⟨rfl,hb⟩;refine ⟨_,rfl,?_⟩;have n_:=Zb (bb_ BK580 hb) (hs_ HB hb);clear BK580 HB;obtain ⟨BK580,HB⟩:=n_;(try clear hb);obtain ⟨_,_,_,_,_,_⟩:=bc3_ BK580.out))
  go_ret;exact ⟨er_,bl_⟩
 ·replace c4:=Zr c4;subst c4;rw [Yb (show¬(false=true) by decide)] at H;obtain rfl:=Zn H;go_enter Tryz.func57,Tryz.ntmps57
  go_wp2_with (first|((with_reducible refine blz (N:=2) rfl ?_);(try (refine aYz (by rfl) ?_;dsimp only));refine bx_ 2 #[.int .i64 a0_0, .int .i64 a0_1, .int .i64 a0_2] 23 ?_;intro gb580 hg w9 hbox hb;have n_:=Zb (hs_ HB hb) (Zb (Za (hbox)) (Zb (ag_ HB gb580) (ag_ HB gb580)));clear HB;obtain ⟨HB,BK580,GW580,GE580⟩:=n_;clear hb hbox hg;obtain ⟨_,_,_,_,_,_⟩:=bc3_ BK580.out)|((with_reducible refine abz (f:=41) rfl ?_);refine gl_ (some 6) Tryz.func41 #[.agg #[.int .i64 a0_0, .int .i64 a0_1, .int .i64 a0_2]] ?_;(with_reducible refine (aDz.calls a0_0 a0_1 a0_2 false _ A3.out).mono ?_);rintro e w11 ⟨rfl,hb⟩;refine ⟨_,rfl,?_⟩;have n_:=Zb (bb_ BK580 hb) (hs_ HB hb);clear BK580 HB;obtain ⟨BK580,HB⟩:=n_;(try clear hb)))
  go_ret;exact ⟨er_,bl_⟩
def cuz.f (a0_0:Int) (a0_1:Int) (a0_2:Int) (l1:List Int):Option (Bool):=(bmz.f a0_0).bind fun bt583=>(if bt583.2.1=16 then (some (((l1.length:Int) % 2)==0)) else (some true))
theorem cuz.calls (a0_0 : Int) (a0_1 : Int) (a0_2 : Int) (A1 : Option Addr) (c1 : Nat) (l1 : List Int) (r : Bool) (w : World) (hr1 : Kd.C (Kd.int .u8) w A1 l1.length l1) (hc1 : l1.length <= c1) (h : cuz.f a0_0 a0_1 a0_2 l1 = some r) :
  Calls Tryz.prog 59 #[.agg #[.int .i64 a0_0, .int .i64 a0_1, .int .i64 a0_2], .slice A1 l1.length c1] w fun e w'=>e= .returned (.bool r)/\Below w.heap.size w w':=by
 have hu23:=Tryz.underlying23;have hu109:=Tryz.underlying109;have HR1:=Za hr1;have HC1:=Za hc1;clear hr1 hc1;have HB:=Za (Zw w.heap.size w);have H:=h;clear h;unfold cuz.f at H;obtain ⟨⟨t583,t584,t585,t586,t587,t588⟩,A3,H⟩:=ob_ H
 (try dsimp only at H)
 by_cases c4:t584=16
 ·rw [Ya c4] at H;have c4b0:(t584==16)=true:=Ye c4;have c4b1:(t584 !=16)=false:=Yc c4;clear c4;obtain rfl:=Zn H;go_enter Tryz.func59,Tryz.ntmps59
  go_wp2_with (first|((with_reducible refine blz (N:=2) rfl ?_);(try (refine aYz (by rfl) ?_;dsimp only));refine bx_ 2 #[.int .i64 a0_0, .int .i64 a0_1, .int .i64 a0_2] 23 ?_;intro gb582 hg w5 hbox hb;have n_:=Zb (hs_ HB hb) (Zb (Za (hbox)) (Zb (ag_ HB gb582) (ag_ HB gb582)));clear HB;obtain ⟨HB,BK582,GW582,GE582⟩:=n_;clear hb hbox hg;obtain ⟨_,_,_,_,_,_⟩:=bc3_ BK582.out)|((with_reducible refine abz (f:=75) rfl ?_);refine gl_ (some 10) Tryz.func75 #[.int .i64 a0_0] ?_;(with_reducible refine (bmz.calls a0_0 t583 t584 t585 t586 t587 t588 _ A3.out).mono ?_);rintro e w7 ⟨rfl,hb⟩;refine ⟨_,rfl,?_⟩;have n_:=Zb (bb_ BK582 hb) (hs_ HB hb);clear BK582 HB;obtain ⟨BK582,HB⟩:=n_;(try clear hb))|((with_reducible refine blz (N:=5) rfl ?_);(try (refine aYz (by rfl) ?_;dsimp only));refine cxz ?hg (N:=5) ?hd (cs:= #[.string (⟨#[]⟩:ByteArray), .int .i64 0, .int .u32 0, .int .u8 0, .int .i64 0]) (t:=109) ?hr ?_;(case hd=>rfl);(case hg=>rfl);(case hr=>first|(go_simp;done)|(go_simp;rfl));intro gb589 hg w8 hbox hb;have n_:=Zb (bb_ BK582 hb) (Zb (hs_ HB hb) (Zb (Za (hbox)) (Zb (ag_ HB gb589) (Zb (ag_ HB gb589) (Zb (n1_ BK582 gb589) (n2_ BK582 gb589))))));clear BK582 HB;obtain ⟨BK582,HB,BK589,GW589,GE589,NB582_589,NB589_582⟩:=n_;clear hb hbox hg;have hnb9:=NB589_582.out;have hnc9:=NB582_589.out;obtain ⟨_,_,_,_,_,_,_,_,_,_⟩:=bc5_ BK589.out))
  go_ret;exact ⟨er_,bl_⟩
 ·rw [Yb c4] at H;have c4b0:(t584==16)=false:=Zq c4;have c4b1:(t584 !=16)=true:=Yd c4;obtain rfl:=Zn H;go_enter Tryz.func59,Tryz.ntmps59
  go_wp2_with (first|((with_reducible refine blz (N:=2) rfl ?_);(try (refine aYz (by rfl) ?_;dsimp only));refine bx_ 2 #[.int .i64 a0_0, .int .i64 a0_1, .int .i64 a0_2] 23 ?_;intro gb582 hg w11 hbox hb;have n_:=Zb (hs_ HB hb) (Zb (Za (hbox)) (Zb (ag_ HB gb582) (ag_ HB gb582)));clear HB;obtain ⟨HB,BK582,GW582,GE582⟩:=n_;clear hb hbox hg;obtain ⟨_,_,_,_,_,_⟩:=bc3_ BK582.out)|((with_reducible refine abz (f:=75) rfl ?_);refine gl_ (some 10) Tryz.func75 #[.int .i64 a0_0] ?_;(with_reducible refine (bmz.calls a0_0 t583 t584 t585 t586 t587 t588 _ A3.out).mono ?_);rintro e w13 ⟨rfl,hb⟩;refine ⟨_,rfl,?_⟩;have n_:=Zb (bb_ BK582 hb) (hs_ HB hb);clear BK582 HB;obtain ⟨BK582,HB⟩:=n_;(try clear hb))|((with_reducible refine blz (N:=5) rfl ?_);(try (refine aYz (by rfl) ?_;dsimp only));refine cxz ?hg (N:=5) ?hd (cs:= #[.string (⟨#[]⟩:ByteArray), .int .i64 0, .int .u32 0, .int .u8 0, .int .i64 0]) (t:=109) ?hr ?_;(case hd=>rfl);(case hg=>rfl);(case hr=>first|(go_simp;done)|(go_simp;rfl));intro gb589 hg w14 hbox hb;have n_:=Zb (bb_ BK582 hb) (Zb (hs_ HB hb) (Zb (Za (hbox)) (Zb (ag_ HB gb589) (Zb (ag_ HB gb589) (Zb (n1_ BK582 gb589) (n2_ BK582 gb589))))));clear BK582 HB;obtain ⟨BK582,HB,BK589,GW589,GE589,NB582_589,NB589_582⟩:=n_;clear hb hbox hg;have hnb15:=NB589_582.out;have hnc15:=NB582_589.out;obtain ⟨_,_,_,_,_,_,_,_,_,_⟩:=bc5_ BK589.out))
  go_ret;exact ⟨er_,bl_⟩
end Go.Proofs.Xc
end
