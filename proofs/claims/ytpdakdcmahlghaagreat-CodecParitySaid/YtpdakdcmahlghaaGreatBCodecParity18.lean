-- Joined texts of this work (wip/tools/bundle.py).
import Derived.Test.YtpdakdcmahlghaaGreatBCodecParity17
set_option maxHeartbeats 8000000
set_option maxRecDepth 100000
set_option linter.unusedVariables false
set_option linter.unusedSimpArgs false
section
namespace Go.Proofs.Xc
open Go.RowKit Go.Proofs.Pw Go.Proofs.Pl Go.Proofs.Pm
attribute [local go_sem] a9z baz bkz blz a2z a3z bbz bcz
def eqRows (k:Nat):List (List Int)->List (List Int)->Option Bool
 | [], [] =>some true
 |x::xs,y::ys=>(aPz.f k x y).bind fun b=>if b=true then eqRows k xs ys else some false
 |_,_=>some false
def eqFunc (k:Nat) (p q:List (List Int)):Option Bool:=if p.length=q.length then (if p.length<=1000000 then eqRows k p q else none) else some false
theorem eqFunc.calls (K : Nat) (A B : Option Addr) (ca cb : Nat) (p q : List (List Int)) (r : Bool) (W : World) (hA : Kd.C (dM 5 .u8) W A p.length p) (hB : Kd.C (dM 5 .u8) W B q.length q) (h : eqFunc K p q = some r) :
  Calls Tryz.prog 53 #[.slice A p.length ca, .slice B q.length cb, .func (.func 54) #[] #[]] W fun e w'=>e= .returned (.bool r)/\Below W.heap.size W w':=by
 unfold eqFunc at h;by_cases hl:p.length=q.length
 ·rw [if_pos hl] at h;by_cases hsm:p.length<=1000000
  ·rw [if_pos hsm] at h;have HA:=Aside0.mk hA;have HBq:=Aside0.mk hB;obtain ⟨n,hn⟩: ∃n,q.length=n:=⟨_,rfl⟩;have HN:=Aside0.mk (show p.length=n/\q.length=n from ⟨hl.trans hn,hn⟩);have hnn:n<=1000000:=by omega
   rw [hl,hn];have HR:=Aside0.mk h;have hself:((n:Int) !=(n:Int))=false:=by simp
   clear h hA hB hl hn;go_enter Tryz.func53,Tryz.ntmps53;go_wp2
   go_loopw [17] (fun iv wr=> ∃i:Nat,i<=n/\iv= .int .i64 (i:Int)/\Aside0 (Below W.heap.size W wr)/\Aside0 (eqRows K (p.drop i) (q.drop i)=some r)) (fun iv _=>n - (intOf iv).toNat)
   case atStart=>exact ⟨0,Nat.zero_le _,rfl,⟨Below.refl _ _⟩,⟨by simpa using HR.out⟩⟩
   clear HR;obtain ⟨w6,rfl⟩: ∃w6,w6=wr:=⟨_,rfl⟩;obtain ⟨i,hi,rfl,HB,HE⟩:=hrel;by_cases hlt:i<n
   ·obtain ⟨x,hx⟩: ∃x,p[i]?=some x:=⟨_,List.getElem?_eq_getElem (by have:=HN.out.1;omega)⟩;obtain ⟨y,hy⟩: ∃y,q[i]?=some y:=⟨_,List.getElem?_eq_getElem (by have:=HN.out.2;omega)⟩;obtain ⟨a1,A1,c1,rfl,e1,l1,C1⟩:=b5z (Kd.aLz HA.out HB.out) i x hx;obtain ⟨a2,A2,c2,rfl,e2,l2,C2⟩:=b5z (Kd.aLz HBq.out HB.out) i y hy
    have hd1:p.drop i=x::p.drop (i+1):=by
     obtain ⟨h1,h2⟩:=List.getElem?_eq_some_iff.1 hx;rw [List.drop_eq_getElem_cons h1,h2]
    have hd2:q.drop i=y::q.drop (i+1):=by
     obtain ⟨h1,h2⟩:=List.getElem?_eq_some_iff.1 hy;rw [List.drop_eq_getElem_cons h1,h2]
    have he:=HE.out;rw [hd1,hd2,eqRows] at he;obtain ⟨b,hb,he⟩:=Option.bind_eq_some_iff.1 he;have HC:=Aside0.mk (aPz.calls K A1 c1 x A2 c2 y b w6 C1 l1 C2 l2 hb);have i1:(0:Int)<=(i:Int):=by omega
    have i2:(i:Int)<(n:Int):=by omega
    have HE2:=Aside0.mk he;clear hd1 hd2 hb he C1 C2 l1 l2 hx hy HE
    cases b with
    |true=>
     go_wp2_with fail
     refine HC.out.mono ?_;rintro e w9 ⟨rfl,m9,rfl⟩;have HB9:=Aside0.mk (aZz HB.out m9);go_wp2;go_roundw
     case rel=>exact ⟨i+1,by omega,by go_num,HB9,⟨by simpa using HE2.out⟩⟩
     case measure=>simp [intOf];omega
    |false=>
     have HRR:=Aside0.mk (show r=false by have:=HE2.out;rw [if_neg (by decide)] at this;cases this;rfl)
     go_wp2_with fail
     refine HC.out.mono ?_;rintro e w9 ⟨rfl,m9,rfl⟩;have HB9:=Aside0.mk (aZz HB.out m9);go_wp2;go_ret;exact ⟨by rw [HRR.out];rfl,HB9.out⟩
   ·obtain rfl:i=n:=by omega
    have HRR:=Aside0.mk (show r=true by
     have:=HE.out;rw [List.drop_of_length_le (by rw [HN.out.1];exact Nat.le_refl _),List.drop_of_length_le (by rw [HN.out.2];exact Nat.le_refl _),eqRows] at this
     cases this;rfl)
    go_wp2;go_ret;exact ⟨by rw [HRR.out];rfl,HB.out⟩
  ·rw [if_neg hsm] at h;cases h
 ·rw [if_neg hl] at h;cases h
  have hne:((p.length:Int) !=(q.length:Int))=true:=by simpa using fun h=>hl (by omega)
  generalize p.length=n1 at hne|-;generalize q.length=n2 at hne|-;clear hA hB hl;go_enter Tryz.func53,Tryz.ntmps53;go_wp2;go_ret;exact ⟨rfl,Below.refl _ _⟩
def bjz.f (k:Nat) (a0_0 a0_1 a0_2:Int) (l1:List (List Int)):Option Bool:=
 (aJz.f a0_0 a0_1 a0_2).bind fun b=>if b=true then (if (l1.length:Int)=a0_1+a0_2 then ((aCz.f k a0_0 a0_1 a0_2 (l1.take a0_1.toNat)).bind fun t=>if t.2=0 then eqFunc k t.1 (l1.drop a0_1.toNat) else some false) else some false) else some false
theorem cut_to3 {P : Program} (t e : TypeId) {i : TypeInfo} (ht : P.underlying t = some (.slice e)) (hi : P.info? e = some i) (A : Option Addr) (n c j : Nat) (hm : j <= n) (hc : n <= c) :
  ∀W:World,(Instr.slice t (.slice A n c) none (some (.int .i64 (j:Int))) (some (.int .i64 (j:Int)))).run P W= .ok (.slice A j j) W:=by
 intro W;have hel:P.elem t=e:=by simp [Program.elem,ht]
 have hu:P.underlying t=some (.slice (P.elem t)):=by rw [hel];exact ht
 have ha:(A.map fun x=>x.add 0)=A:=by cases A<;>simp [Addr.add]
 have h1:(j:Int)<=(c:Int):=by omega
 simp [Instr.slice,run_underlying hu,Instr.sliceBounds,run_sliceBound,h1,hel,sizeOf,typeInfo,hi,sliced,Result.andThen,ha]
theorem bjz.nomay (a0_0 a0_1 a0_2 : Int) (A1 : Option Addr) (c1 n : Nat) (w : World) (h : aJz.f a0_0 a0_1 a0_2 = some false) :
  Calls Tryz.prog 22 #[.agg #[.int .i64 a0_0, .int .i64 a0_1, .int .i64 a0_2], .slice A1 n c1] w fun e w'=>e= .returned (.bool false)/\Below w.heap.size w w':=by
 have HM:=Aside0.mk (fun w=>aJz.calls a0_0 a0_1 a0_2 false w h);have hu:=Tryz.underlying23;have HB:=Aside0.mk (anz (Below.refl w.heap.size w) (.cells #[.int .i64 a0_0, .int .i64 a0_1, .int .i64 a0_2] 23));clear h;go_enter Tryz.func22,Tryz.ntmps22
 go_wp2_with fail
 generalize w.alloc (.cells #[.int .i64 a0_0, .int .i64 a0_1, .int .i64 a0_2] 23)=w0 at HB|-;refine (HM.out w0).mono ?_;rintro e w1 ⟨rfl,hB1⟩;have HB1:=Aside0.mk (HB.out.trans (hB1.mono HB.out.size));clear hB1;go_wp2;go_ret;exact ⟨rfl,HB1.out⟩
theorem bjz.nolen (a0_0 a0_1 a0_2 : Int) (A1 : Option Addr) (c1 n : Nat) (w : World) (h : aJz.f a0_0 a0_1 a0_2 = some true) (hk : 1 <= a0_1 /\ a0_1 <= 1000 /\ 1 <= a0_2 /\ a0_2 <= 1000) (hn : (n : Int) ≠ a0_1 + a0_2) :
  Calls Tryz.prog 22 #[.agg #[.int .i64 a0_0, .int .i64 a0_1, .int .i64 a0_2], .slice A1 n c1] w fun e w'=>e= .returned (.bool false)/\Below w.heap.size w w':=by
 have HM:=Aside0.mk (fun w=>aJz.calls a0_0 a0_1 a0_2 true w h);have hu:=Tryz.underlying23;have HB:=Aside0.mk (anz (Below.refl w.heap.size w) (.cells #[.int .i64 a0_0, .int .i64 a0_1, .int .i64 a0_2] 23));have HX:=Aside0.mk (heap_alloc_new w (.cells #[.int .i64 a0_0, .int .i64 a0_1, .int .i64 a0_2] 23));have hs:IntKind.i64.wrap (a0_1+a0_2)=a0_1+a0_2:=by rw [IntKind.wrap_i64];omega
 have hne:((n:Int) !=a0_1+a0_2)=true:=by simpa using hn
 clear h hk hn;go_enter Tryz.func22,Tryz.ntmps22
 go_wp2_with fail
 generalize w.alloc (.cells #[.int .i64 a0_0, .int .i64 a0_1, .int .i64 a0_2] 23)=w0 at HB HX|-;refine (HM.out w0).mono ?_;rintro e w1 ⟨rfl,hB1⟩;have HB1:=Aside0.mk (HB.out.trans (hB1.mono HB.out.size));have HX1:=aMz HX.out hB1;have q1:w1.cell? ⟨w.heap.size,1,none⟩=some (.int .i64 a0_1):=(acz HX1 1).trans rfl;have q2:w1.cell? ⟨w.heap.size,2,none⟩=some (.int .i64 a0_2):=(acz HX1 2).trans rfl;clear hB1 HX HX1;go_wp2;go_ret;exact ⟨rfl,HB1.out⟩
theorem bjz.go (k : Nat) (a0_0 : Int) (kk M n : Nat) (A1 : Option Addr) (c1 : Nat) (l1 t1 : List (List Int)) (t2 : Int) (r : Bool) (w : World) (h : aJz.f a0_0 (kk : Int) (M : Int) = some true) (hk : 1 <= kk /\ kk <= 1000 /\ 1 <= M /\ M <= 1000) (hn : n = kk + M) (hln : l1.length = n) (hc : n <= c1)
  (hr:Kd.C (dM 5 .u8) w A1 l1.length l1) (hp:aCz.f k a0_0 (kk:Int) (M:Int) (l1.take kk)=some (t1,t2)) (he:t2=0->eqFunc k t1 (l1.drop kk)=some r) (he2:t2≠0->r=false):
  Calls Tryz.prog 22 #[.agg #[.int .i64 a0_0, .int .i64 (kk:Int), .int .i64 (M:Int)], .slice A1 n c1] w fun e w'=>e= .returned (.bool r)/\Below w.heap.size w w':=by
 have HM:=Aside0.mk (fun w=>aJz.calls a0_0 (kk:Int) (M:Int) true w h);have HE:=Aside0.mk he;have HE2:=Aside0.mk he2;have HP:=Aside0.mk hp;have HR:=Aside0.mk hr;have HLN:=Aside0.mk hln;have hu:=Tryz.underlying23;have hu2:=Tryz.underlying24;have HB:=Aside0.mk (anz (Below.refl w.heap.size w) (.cells #[.int .i64 a0_0, .int .i64 (kk:Int), .int .i64 (M:Int)] 23));have HX:=Aside0.mk (heap_alloc_new w (.cells #[.int .i64 a0_0, .int .i64 (kk:Int), .int .i64 (M:Int)] 23));have hs:IntKind.i64.wrap ((kk:Int)+(M:Int))=((kk+M:Nat):Int):=by rw [IntKind.wrap_i64];omega
 have hne:((n:Int) !=((kk+M:Nat):Int))=false:=by rw [hn];simp
 have hKn:kk<=n:=by omega
 clear h hk hn he he2 hp hr hln;go_enter Tryz.func22,Tryz.ntmps22
 go_wp2_with fail
 generalize w.alloc (.cells #[.int .i64 a0_0, .int .i64 (kk:Int), .int .i64 (M:Int)] 23)=w0 at HB HX|-;refine (HM.out w0).mono ?_;rintro e w1 ⟨rfl,hB1⟩;have HB1:=Aside0.mk (HB.out.trans (hB1.mono HB.out.size));have HX1:=Aside0.mk (aMz HX.out hB1);have q0:w1.cell? ⟨w.heap.size,0,none⟩=some (.int .i64 a0_0):=(acz HX1.out 0).trans rfl;have q1:w1.cell? ⟨w.heap.size,1,none⟩=some (.int .i64 (kk:Int)):=(acz HX1.out 1).trans rfl;have q2:w1.cell? ⟨w.heap.size,2,none⟩=some (.int .i64 (M:Int)):=(acz HX1.out 2).trans rfl;have hinfo:(Tryz.prog.info? 34).map (fun i=>i.size)=some 1:=by kernel_rfl
 obtain ⟨inf,hinf,hsz⟩:=Option.map_eq_some_iff.1 hinfo;have hcut:=cut_to3 (P:=Tryz.prog) 24 34 hu2 hinf A1 n c1 kk hKn hc;have htk:(l1.take kk).length=kk:=by rw [List.length_take,HLN.out];omega
 have HPA:=Aside0.mk (show Calls Tryz.prog 19 #[.agg #[.int .i64 a0_0, .int .i64 (kk:Int), .int .i64 (M:Int)], .slice A1 kk kk] w1.drew _ from by
  have h1:=aCz.calls k a0_0 (kk:Int) (M:Int) A1 kk (l1.take kk) t1 t2 w1.drew (Kd.C_take (Kd.aLz HR.out HB1.out.drew) (by rw [HLN.out];exact hKn)) (by omega) HP.out;rw [htk] at h1
  exact h1)
 have hmo:Tryz.prog.follows .mixedOrders=true:=by kernel_rfl
 have hdl:(l1.drop kk).length=n - kk:=by rw [List.length_drop,HLN.out]
 have hcut2:=ecz (P:=Tryz.prog) 24 34 .i64 hu2 hinf 1 hsz A1 n c1 (kk:Int) (by omega) (by omega);have hdr:=Kd.C_drop (m:=kk) (c:=c1) HR.out (by rw [HLN.out];exact hKn) (by rw [HLN.out];exact hc);rw [show (dM 5 .u8).sz=1 from rfl,hdl] at hdr;simp only [Int.toNat_natCast] at hcut2;generalize (if c1=kk then A1 else Option.map (fun x=>x.add (kk*1)) A1)=A4 at hcut2 hdr;have HDR:=Aside0.mk hdr;have HDL:=Aside0.mk hdl;obtain ⟨c4,hc4⟩: ∃c4,c1 - kk=c4:=⟨_,rfl⟩;obtain ⟨n4,hn4⟩: ∃n4,n - kk=n4:=⟨_,rfl⟩;rw [hc4,hn4] at hcut2;rw [hn4] at HDR HDL;clear hB1 HX HB HM hinfo hinf htk HP hsz hdl hdr hc4 hn4
 go_wp2_with fail
 refine bPz (n:=13) (S:=fun w'=>w'.cell? ⟨w.heap.size,0,none⟩=some (.int .i64 a0_0)/\w'.cell? ⟨w.heap.size,1,none⟩=some (.int .i64 (kk:Int))/\w'.cell? ⟨w.heap.size,2,none⟩=some (.int .i64 (M:Int))) (ds:= []) (bA 13 0) kr_ rfl rfl ⟨q0,q1,q2⟩ (fun hHeld=> ?_);refine pu_ 1 22 2 ?_;refine pu_ 2 23 6 ?_;refine pu_ 4 25 22 ?_;refine tk_ 0 21 23 hHeld ?_;refine tk_ 3 24 31 hHeld ?_;refine tk_ 5 26 63 hHeld ?_;refine pu_ 6 27 127 ?_;refine one_ (i:=7) (N:=some 28) (bA 13 255) rfl rfl kr_ (by decide) (fun K hK=> ?_);refine goes_ Tryz.func19 kr_ rfl #[.agg #[.int .i64 a0_0, .int .i64 (kk:Int), .int .i64 (M:Int)], .slice A1 kk kk] (by rfl) rfl rfl am_ ?_
 with_reducible refine (HPA.out).mono ?_
 rintro e w2 ⟨v,rfl,p3,p4⟩;refine ⟨_,rfl,?_⟩;have P3:=Aside0.mk p3;have HB2:=Aside0.mk (HB1.out.drew.trans (p4.mono HB1.out.drew.size));have HX2:=Aside0.mk (aMz (show w1.drew.heap[w.heap.size]?=_ from HX1.out) p4);clear p3 p4;refine hK.out _ _ ⟨(acz HX2.out 0).trans rfl,(acz HX2.out 1).trans rfl,(acz HX2.out 2).trans rfl⟩ (fun hHeld=> ?_);clear hK K;refine norm_ (a':= ?_) ?_ ?_;rotate_left
 ·show Act.put _ (some 28) _=_;simp only [Act.put,List.setIfInBounds_toArray,List.set_cons_zero,List.set_cons_succ,i64_w,i32_w];rfl
 refine pu_ 8 20 511 ?_;refine pu_ 9 29 1023 ?_;refine pu_ 10 30 2047 ?_;refine pu_ 11 5 4095 ?_;refine pu_ 12 6 8191 ?_;refine done_ kr_ ?_;have q1:w2.cell? ⟨w.heap.size,1,none⟩=some (.int .i64 (kk:Int)):=hHeld.2.1;obtain ⟨A2,c2,rfl,l2,C2⟩:=Kd.S_reads P3.out;by_cases ht:t2=0
 ·subst ht
  have HEQ:=Aside0.mk (show Calls Tryz.prog 53 #[.slice A2 t1.length c2, .slice A4 n4 c4, .func (.func 54) #[] #[]] w2 _ from by
   have h1:=eqFunc.calls k A2 A4 c2 c4 t1 (l1.drop kk) r w2 C2 (by have:=Kd.aLz HDR.out (HB2.out);rw [HDL.out];exact this) (HE.out rfl);rw [HDL.out] at h1
   exact h1)
  generalize t1.length=m1 at HEQ l2|-;clear C2 P3 HPA
  go_wp2_with fail
  refine HEQ.out.mono ?_;rintro e w3 ⟨rfl,q3⟩;have HB3:=Aside0.mk (HB2.out.trans (q3.mono HB2.out.size));clear q3;go_wp2;go_ret;exact ⟨by cases r<;>rfl,HB3.out⟩
 ·have hne2:(t2==0)=false:=by simpa using ht
  have HRR:=Aside0.mk (HE2.out ht);generalize t1.length=m1 at l2|-;clear C2 P3 HPA;go_wp2;go_ret;exact ⟨by rw [HRR.out];rfl,HB2.out⟩
theorem bjz.calls (k:Nat) (a0_0:Int) (a0_1:Int) (a0_2:Int) (A1:Option Addr) (c1:Nat) (l1:List (List Int)) (r:Bool) (w:World) (hr1:Kd.C (Kd.slice 5 (Kd.int .u8)) w A1 l1.length l1) (hc1:l1.length<=c1) (h:bjz.f k a0_0 a0_1 a0_2 l1=some r):
 Calls Tryz.prog 22 #[.agg #[.int .i64 a0_0, .int .i64 a0_1, .int .i64 a0_2], .slice A1 l1.length c1] w fun e w'=>e= .returned (.bool r)/\Below w.heap.size w w':=by
 unfold bjz.f at h;obtain ⟨b,hb⟩:=ekz a0_0 a0_1 a0_2;rw [hb] at h;simp only [Option.bind_some] at h
 cases b with
 |false=>
  rw [if_neg (by decide)] at h;cases h
  exact bjz.nomay a0_0 a0_1 a0_2 A1 c1 l1.length w hb
 |true=>
  rw [if_pos rfl] at h;obtain ⟨p1,p2,k1,k2,m1,m2⟩:=cJz hb;by_cases hl:(l1.length:Int)=a0_1+a0_2
  ·rw [if_pos hl] at h;obtain ⟨kk,rfl⟩: ∃kk:Nat,a0_1=(kk:Int):=⟨a0_1.toNat,by omega⟩;obtain ⟨M,rfl⟩: ∃M:Nat,a0_2=(M:Int):=⟨a0_2.toNat,by omega⟩;rw [Int.toNat_natCast] at h;obtain ⟨⟨t1,t2⟩,hp,h⟩:=Option.bind_eq_some_iff.1 h;exact bjz.go k a0_0 kk M l1.length A1 c1 l1 t1 t2 r w hb (by omega) (by omega) rfl hc1 hr1 hp (fun ht=>by dsimp only at h;rwa [if_pos ht] at h) (fun ht=>by dsimp only at h;rw [if_neg ht] at h;cases h;rfl)
  ·rw [if_neg hl] at h;cases h
   exact bjz.nolen a0_0 a0_1 a0_2 A1 c1 l1.length w hb (by omega) hl
def cpz.f (a0_0:Int) (a0_1:Int) (a0_2:Int):Option (Int×Int):=(bnz.f a0_0).bind fun bt112=>(if bt112.2.2.2.1=106 then (some (8,0)) else (if bt112.2.2.2.1=105 then (some (16,0)) else (if bt112.2.2.2.1=98 then (some (1,4)) else (some (1,0)))))
theorem cpz.calls (a0_0:Int) (a0_1:Int) (a0_2:Int) (r1:Int) (r2:Int) (w:World) (h:cpz.f a0_0 a0_1 a0_2=some (r1,r2)):
 Calls Tryz.prog 89 #[.agg #[.int .i64 a0_0, .int .i64 a0_1, .int .i64 a0_2]] w fun e w'=>e= .returned (.tuple #[.int .i64 r1, .int .i64 r2])/\Below w.heap.size w w':=by
 have hu23:=Tryz.underlying23;have hu109:=Tryz.underlying109;have HB:=Aside0.mk (Below.refl w.heap.size w);have H:=h;clear h;unfold cpz.f at H;obtain ⟨⟨t112,t113,t114,t115,t116,t117⟩,A2,H⟩:=ob_ H
 (try dsimp only at H)
 have HH:=Aside0.mk H;clear H;go_enter Tryz.func89,Tryz.ntmps89
 go_wp2_with (first|((with_reducible refine a8z (N:=1) rfl ?_);refine bx_ 1 #[.int .i64 a0_0, .int .i64 a0_1, .int .i64 a0_2] 23 ?_;intro gb111 hg w4 hbox hb;have n_:=And.intro (hs_ HB hb) (And.intro (Aside0.mk (hbox)) (And.intro (ag_ HB gb111) (ag_ HB gb111)));clear HB;obtain ⟨HB,BK111,GW111,GE111⟩:=n_;clear hb hbox hg;obtain ⟨hcz5_0,hfz5_0,hcz5_1,hfz5_1,hcz5_2,hfz5_2⟩:=bc3_ BK111.out)|((with_reducible refine abz (f:=75) rfl ?_);refine gl_ (some 9) Tryz.func75 #[.int .i64 a0_0] ?_;(with_reducible refine (bnz.calls a0_0 t112 t113 t114 t115 t116 t117 _ A2.out).mono ?_);rintro e w6 ⟨rfl,hb⟩;refine ⟨_,rfl,?_⟩;have n_:=And.intro (bb_ BK111 hb) (hs_ HB hb);clear BK111 HB;obtain ⟨BK111,HB⟩:=n_;(try clear hb))|((with_reducible refine a8z (N:=4) rfl ?_);refine b6z ?hg (N:=4) ?hd (cs:= #[.string (⟨#[]⟩:ByteArray), .int .i64 0, .int .u32 0, .int .u8 0, .int .i64 0]) (t:=109) ?hr ?_;(case hd=>rfl);(case hg=>rfl);(case hr=>first|(go_simp;done)|(go_simp;rfl));intro gb118 hg w7 hbox hb;have n_:=And.intro (bb_ BK111 hb) (And.intro (hs_ HB hb) (And.intro (Aside0.mk (hbox)) (And.intro (ag_ HB gb118) (And.intro (ag_ HB gb118) (And.intro (n1_ BK111 gb118) (n2_ BK111 gb118))))));clear BK111 HB;obtain ⟨BK111,HB,BK118,GW118,GE118,NB111_118,NB118_111⟩:=n_;clear hb hbox hg;have hnb8:=NB118_111.out;have hnc8:=NB111_118.out;obtain ⟨hcz9_0,hfz9_0,hcz9_1,hfz9_1,hcz9_2,hfz9_2,hcz9_3,hfz9_3,hcz9_4,hfz9_4⟩:=bc5_ BK118.out))
 all_goals
  go_ret2;refine ⟨?_,bl_⟩;have H:=HH.out
  simp_all
def a6z.j0:Nat->Int->Bool->Int->Int->Int->Option (Int×Int)
 |0,_,_,_,_,_=>none
 |k+1,x1,x9,x112000,x112001,x112002=>if x9=true then (some (0,1)) else (if x1>4096 then (some (0,11)) else ((cpz.f x112000 x112001 x112002).bind fun bt113=>(if (wrap64 (bt113.1*x112001))=0 then (none) else (some (wrap64 (bt113.1*(mx (wrap64 (Int.tdiv (wrap64 ((wrap64 ((wrap64 (x1+bt113.2))+(wrap64 (bt113.1*x112001)))) - 1)) (wrap64 (bt113.1*x112001)))) 1)),0)))))
def a6z.f (k:Nat) (a0_0:Int) (a0_1:Int) (a0_2:Int) (a1:Int):Option (Int×Int):=(aJz.f a0_0 a0_1 a0_2).bind fun t112=>(if t112=true then (a6z.j0 k a1 (decide (a1<0)) a0_0 a0_1 a0_2) else (a6z.j0 k a1 true a0_0 a0_1 a0_2))
theorem a6z.aUz: ∀k,(∀y0 y1 y2 y3 y4,LeO (a6z.j0 k y0 y1 y2 y3 y4) (a6z.j0 (k+1) y0 y1 y2 y3 y4))
 |0=>fun _ _ _ _ _ r h=>by simp [a6z.j0] at h
 |k+1=>by
  have ih0:=a6z.aUz k
  ·intro y0 y1 y2 y3 y4;unfold a6z.j0
   repeat' with_reducible first|apply ih0|apply LeO.refl|apply LeO.none|apply LeO.ite|refine LeO.bind ?_ fun _=>?_
theorem a6z.mono: ∀a0 a1 a2 a3 k,LeO (a6z.f k a0 a1 a2 a3) (a6z.f (k+1) a0 a1 a2 a3):=by
 intro a0 a1 a2 a3 k;have ih0:=a6z.aUz k;unfold a6z.f
 repeat' with_reducible first|apply ih0|apply LeO.refl|apply LeO.none|apply LeO.ite|refine LeO.bind ?_ fun _=>?_
theorem a6z.calls (k : Nat) (a0_0 : Int) (a0_1 : Int) (a0_2 : Int) (a1 : Int) (r1 : Int) (r2 : Int) (w : World) (h : a6z.f k a0_0 a0_1 a0_2 a1 = some (r1, r2)) :
  Calls Tryz.prog 88 #[.agg #[.int .i64 a0_0, .int .i64 a0_1, .int .i64 a0_2], .int .i64 a1] w fun e w'=>e= .returned (.tuple #[.int .i64 r1, .int .i64 r2])/\Below w.heap.size w w':=by
 have hu23:=Tryz.underlying23;have HB:=Aside0.mk (Below.refl w.heap.size w);have H:=h;clear h;unfold a6z.f at H;have HC3:=Aside0.mk H;clear H;go_enter Tryz.func88,Tryz.ntmps88
 go_upto_region 1 with (first|((with_reducible refine a8z (N:=2) rfl ?_);refine bx_ 2 #[.int .i64 a0_0, .int .i64 a0_1, .int .i64 a0_2] 23 ?_;intro gb111 hg w4 hbox hb;have n_:=And.intro (hs_ HB hb) (And.intro (Aside0.mk (hbox)) (And.intro (ag_ HB gb111) (ag_ HB gb111)));clear HB;obtain ⟨HB,BK111,GW111,GE111⟩:=n_;clear hb hbox hg))
 (try simp only [Act.put,List.setIfInBounds_toArray,List.set_cons_zero,List.set_cons_succ])
 go_cut [9] (fun v9 wc=> ∃(kq:Nat) (x9_2:Bool),v9= .bool x9_2/\Aside0 (a6z.j0 kq a1 x9_2 a0_0 a0_1 a0_2=some (r1,r2))/\Aside0 (kq<=k)/\Aside0 (wc.heap[gb111]?=some (.cells #[.int .i64 a0_0, .int .i64 a0_1, .int .i64 a0_2] 23 (0,0)))/\Aside0 (Below w.heap.size w wc))
 case first=>
  have H:=HC3.out;clear HC3;obtain ⟨t112,A5,H⟩:=ob_ H
  (try dsimp only at H)
  by_cases c6:t112=true
  ·subst c6;rw [if_pos rfl] at H;have H':=Aside0.mk H;clear H;obtain ⟨hcz7_0,hfz7_0,hcz7_1,hfz7_1,hcz7_2,hfz7_2⟩:=bc3_ BK111.out
   go_wp2_with (first|((with_reducible refine abz (f:=41) rfl ?_);refine gl_ (some 11) Tryz.func41 #[.agg #[.int .i64 a0_0, .int .i64 a0_1, .int .i64 a0_2]] ?_;(with_reducible refine (aJz.calls a0_0 a0_1 a0_2 true _ A5.out).mono ?_);rintro e w8 ⟨rfl,hb⟩;refine ⟨_,rfl,?_⟩;have n_:=And.intro (bb_ BK111 hb) (hs_ HB hb);clear BK111 HB;obtain ⟨BK111,HB⟩:=n_;(try clear hb)))
   go_meet
   case rel=>exact ⟨_,(decide (a1<0)),sd_,H',⟨by first|omega|exact Nat.le_refl _⟩,⟨bk_⟩,⟨bl_⟩⟩
  ·replace c6:=Bool.eq_false_iff.mpr c6;subst c6;rw [if_neg (show¬(false=true) by decide)] at H;have H':=Aside0.mk H;clear H;obtain ⟨hcz9_0,hfz9_0,hcz9_1,hfz9_1,hcz9_2,hfz9_2⟩:=bc3_ BK111.out
   go_wp2_with (first|((with_reducible refine abz (f:=41) rfl ?_);refine gl_ (some 11) Tryz.func41 #[.agg #[.int .i64 a0_0, .int .i64 a0_1, .int .i64 a0_2]] ?_;(with_reducible refine (aJz.calls a0_0 a0_1 a0_2 false _ A5.out).mono ?_);rintro e w10 ⟨rfl,hb⟩;refine ⟨_,rfl,?_⟩;have n_:=And.intro (bb_ BK111 hb) (hs_ HB hb);clear BK111 HB;obtain ⟨BK111,HB⟩:=n_;(try clear hb)))
   go_meet
   case rel=>exact ⟨_,(true),sd_,H',⟨by first|omega|exact Nat.le_refl _⟩,⟨bk_⟩,⟨bl_⟩⟩
 case rest=>
  clear HC3
  try clear p2
  try clear c4
  try clear c6
  try clear c8
  try clear hcz7_0
  try clear hcz7_1
  try clear hcz7_2
  try clear hcz9_0
  try clear hcz9_1
  try clear hcz9_2
  try clear hfz7_0
  try clear hfz7_1
  try clear hfz7_2
  try clear hfz9_0
  try clear hfz9_1
  try clear hfz9_2
  obtain ⟨kq,x9_2,rfl,HA,HJ2,BK111,HB⟩:=hcut;rcases kq with _|kj2
  ·exact absurd HA.out (by simp [a6z.j0])
  have H:=HA.out;clear HA;simp only [a6z.j0] at H;by_cases c11:x9_2=true
  ·subst c11;rw [if_pos rfl] at H;simp only [Option.some.injEq,Prod.mk.injEq] at H;obtain ⟨rfl,rfl⟩:=H;go_wp2;go_ret2;exact ⟨er_,bl_⟩
  ·replace c11:=Bool.eq_false_iff.mpr c11;subst c11;rw [if_neg (show¬(false=true) by decide)] at H;by_cases c12:a1>4096
   ·rw [if_pos c12] at H;have c12b0:decide (4096<a1)=true:=decide_eq_true c12;clear c12;simp only [Option.some.injEq,Prod.mk.injEq] at H;obtain ⟨rfl,rfl⟩:=H;go_wp2;go_ret2;exact ⟨er_,bl_⟩
   ·rw [if_neg c12] at H;have c12b0:decide (4096<a1)=false:=decide_eq_false c12;clear c12;obtain ⟨⟨t113,t114⟩,A13,H⟩:=ob_ H
    (try dsimp only at H)
    by_cases c14:(wrap64 (t113*a0_1))=0
    ·rw [if_pos c14] at H;exact absurd H (by simp)
    ·rw [if_neg c14] at H;have c14b0:((wrap64 (t113*a0_1))==0)=false:=beq_eq_false_iff_ne.mpr c14;have c14b1:((wrap64 (t113*a0_1)) !=0)=true:=bne_iff_ne.mpr c14;obtain ⟨ji15,hji15⟩: ∃j_:Int,(mx (wrap64 (Int.tdiv (wrap64 ((wrap64 ((wrap64 (a1+t114))+(wrap64 (t113*a0_1)))) - 1)) (wrap64 (t113*a0_1)))) 1)=j_:=⟨_,rfl⟩
     replace H:(some (wrap64 (t113*(ji15)),0))=some (r1,r2):=by first|(rw [hji15] at H;exact H)|(simp only [hji15] at H|-;exact H)
     (try rw [hji15] at A13)
     have hji15_:(if (wrap64 (Int.tdiv (wrap64 ((wrap64 ((wrap64 (a1+t114))+(wrap64 (t113*a0_1)))) - 1)) (wrap64 (t113*a0_1))))<1 then 1 else (wrap64 (Int.tdiv (wrap64 ((wrap64 ((wrap64 (a1+t114))+(wrap64 (t113*a0_1)))) - 1)) (wrap64 (t113*a0_1)))))=ji15:=hji15;simp only [Option.some.injEq,Prod.mk.injEq] at H;obtain ⟨rfl,rfl⟩:=H;obtain ⟨hcz16_0,hfz16_0,hcz16_1,hfz16_1,hcz16_2,hfz16_2⟩:=bc3_ BK111.out
     go_wp2_with (first|((with_reducible refine abz (f:=89) rfl ?_);refine gl_ (some 22) Tryz.func89 #[.agg #[.int .i64 a0_0, .int .i64 a0_1, .int .i64 a0_2]] ?_;(with_reducible refine (cpz.calls a0_0 a0_1 a0_2 t113 t114 _ A13.out).mono ?_);rintro e w17 ⟨rfl,hb⟩;refine ⟨_,rfl,?_⟩;have n_:=And.intro (bb_ BK111 hb) (hs_ HB hb);clear BK111 HB;obtain ⟨BK111,HB⟩:=n_;(try clear hb);obtain ⟨hcz18_0,hfz18_0,hcz18_1,hfz18_1,hcz18_2,hfz18_2⟩:=bc3_ BK111.out))
     go_ret2;exact ⟨by first|rfl|(simp [b7z,b8z] <;>rfl)|(simp only [<-hji15];first|rfl|(simp [b7z,b8z] <;>rfl))|(simp [*,b7z,b8z] <;>rfl),bl_⟩
section
variable {F : Fence} {n : Nat} {P : Program}
def SeqN {α:Type} (F:Fence) (n:Nat) (P:Program) (g:Nat) (lb:Array Value) (encs:α->Array Value) (Hd:Nat->α->World->Prop) (Kp:World->World->Prop) (S:List α->Prop) (M:Nat) (w:World):Prop:=
 ∀(l:Nat) (J:List α->World->Prop) (W:World),Below w.heap.size w W->(∀s A B,J s A->A.grownBy B none->J s B)->
  (∀pre x W1,J pre W1->Hd pre.length x W1->pre.length<M->YieldAt F (n - 1) P l (encs x) W1 fun e W'=>e= .returned (.bool true)/\J (pre++ [x]) W'/\Kp W1 W')->
  J [] W->CallsIn F n P g (#[.func (.yield l) #[] #[]] ++lb) W fun e W'=>(∃v,e= .returned v)/\ ∃xs,S xs/\J xs W'
def plainPostN {α:Type} (B:Nat) (Kp:World->World->Prop) (I:List α->World->Prop) (xs:List α) (W:World):Exit->Act->World->Prop
 | .normal,_,W'=>KeepsFrom B W W'/\Kp W W'/\I xs W'
 |_,_,_=>False
theorem wpIn_range_nth {α : Type} {g : Operand} {ps : Array Tmp} {assign body : Code} {Q : Exit -> Act -> World -> Prop} {a : Act} {w : World}
  (hro:F.round=none) (h1:1<=n) {gf:Nat} {lb:Array Value} (hg:a.eval g= .func (.func gf) #[] lb) (hFg:F.fn gf) (eg: ∀args w,(callFunc gf args).run P w= .ok (.enter gf args) w)
  {encs:α->Array Value} {Hd:Nat->α->World->Prop} {Kp:World->World->Prop} {S:List α->Prop} {M:Nat} {w0:World} (hseq:SeqN F (n - 1) P gf lb encs Hd Kp S M w0)
  (hKt: ∀ {A B C:World},Kp A B->Kp B C->Kp A C) (hKb: ∀(W:World) (l:Nat) (o o':Obj),w.heap.size<=l->W.heap[l]?=some o->o.isCells=false->Kp W (W.putObj l o')) (hb0:Below w0.heap.size w0 w) (hps: ∀x,(encs x).size=ps.size)
  (I:List α->World->Prop) (hI:OwnFrom w.heap.size I) (hHd: ∀m x,OwnFrom w.heap.size (fun (_:Unit) W=>Hd m x W)) (h0:I [] w) (a₁:α->Act)
  (hassign: ∀(l:Nat) (x:α) (W:World) (K:Act->World->Prop),K (a₁ x) W->
   assign.wpIn (F.inRound l) (n - 1 - 1) P (Exit.then K (fun _ _ _=>False)) { tmps:=(ps.zip (encs x)).foldl (fun t (p,v)=>t.setIfInBounds p v) a.tmps,defers:= [] } W)
  (hbody: ∀(l:Nat) (pre:List α) (x:α) (W:World),I pre W->Hd pre.length x W->pre.length<M->body.wpIn (F.inRound l) (n - 1 - 1) P (plainPostN w.heap.size Kp I (pre++ [x]) W) (a₁ x) W)
  (hdone: ∀(D:Nat) (xs:List α) (W:World),w.heap.size<=D->S xs->I xs W->W.heap[D]?=some (.deferred (some []))->Q .normal { a with defers:= { target:= .collected D,args:= #[] } ::a.defers } W):
  (Code.rangeFunc g ps assign body).wpIn F n P Q a w:=by
 refine wpIn_rangeFunc fun fn hfn=> ?_
 rw [hro];obtain ⟨L,hL⟩: ∃L:LoopState->Option Code->Loop,L=fun st pe=> { state:=st,pending:=pe,fn,tmps:=a.tmps,params:=ps,assign,body,defers:=w.heap.size } :=⟨_,rfl⟩
 obtain ⟨V,hV⟩: ∃V,(w.alloc (.deferred (some []))).alloc (.loop (L .ready none))=V:=⟨_,rfl⟩
 have vl:V.heap[w.heap.size+1]?=some (.loop (L .ready none)):=by
  rw [<-hV];have:=World.alloc_heap_new (w.alloc (.deferred (some []))) (.loop (L .ready none));rwa [World.size_alloc] at this
 have vd:V.heap[w.heap.size]?=some (.deferred (some [])):=by
  rw [<-hV];exact (Below.heap_alloc _ _ _ (by simp)).trans (World.alloc_heap_new w _)
 refine ⟨w.heap.size+1, [{ target:= .collected w.heap.size,args:= #[] }],V, { target:= .fn (.func gf) lb,args:= #[.func (.yield (w.heap.size+1)) #[] #[]] },V,gf,
  #[.func (.yield (w.heap.size + 1)) #[] #[]] ++ lb, V, by rw [<- hV, hL]; exact run_enterLoop_outer _ _ _ _ _, by simp only [resolve, hg]; simp [go_sem], ?_, by simp [invoke, go_sem, eg], fun _ => h1, ?_⟩
 ·intro f' hf';simp [Target.leads] at hf';subst hf';exact hFg
 refine (hseq (w.heap.size+1) (fun pre W=>(I pre W/\w.heap.size+1<W.heap.size)/\W.heap[w.heap.size+1]?=some (.loop (L .ready none))/\W.heap[w.heap.size]?=some (.deferred (some []))) V ?_ ?_ ?_ ?_).mono ?_
 ·rw [<-hV];exact hb0.trans ((((Below.refl _ w).alloc (Nat.le_refl _) _).alloc (by simp) _).mono hb0.size)
 ·rintro s A B ⟨⟨i1,i2⟩,i3,i4⟩ hgr;exact ⟨⟨hI s A B none i1 hgr (fun r e=>by cases e),Nat.lt_of_lt_of_le i2 hgr.size⟩,(hgr.block _ i2 (by simp)).trans i3,(hgr.block _ (by omega) (by simp)).trans i4⟩
 ·rintro pre x W ⟨⟨i1,i2⟩,i3,i4⟩ hx hlen;have hy:=run_yield (P:=P) (args:=encs x) i3 (by rw [hL];exact hps x);rw [hL] at hy;refine ⟨fn,_,assign,body,hy,roundIn_of_wpIn hfn (hassign _ x W _ ?_)⟩;refine ⟨_,run_beginRound i3 (by rw [hL]),?_⟩;have l2:(W.putObj (w.heap.size+1) (.loop { L .ready none with state:= .busy })).heap[w.heap.size+1]?=some (.loop { L .ready none with state:= .busy }):=World.putObj_heap_same i2;have d2:(W.putObj (w.heap.size+1) (.loop { L .ready none with state:= .busy })).heap[w.heap.size]?=some (.deferred (some [])):=(World.putObj_heap_other (by omega)).trans i4;have k2:Kp W (W.putObj (w.heap.size+1) (.loop { L .ready none with state:= .busy })):=hKb _ _ _ _ (by omega) i3 rfl;refine wpIn_mono (hbody _ pre x _ (hI.putObj _ i1 (by omega) i3 rfl) ((hHd _ x).putObj (s:=()) _ hx (by omega) i3 rfl) hlen) ?_;rintro e a3 W3 hp
  cases e with
  |normal=>
   obtain ⟨q1,q2,q3⟩:=hp;have l3:=q1.same _ _ (by omega) l2 rfl;have d3:=q1.same _ _ (Nat.le_refl _) d2 rfl;have hr:=run_endRound (P:=P) none l3;have hlt:=(Array.getElem?_eq_some_iff.1 l3).1;refine ⟨_,_,hr,rfl,⟨⟨hI.putObj _ q3 (by omega) l3 rfl,Nat.lt_of_lt_of_le hlt (grownBy_putObj' _ _ _).size⟩,?_,(World.putObj_heap_other (by omega)).trans d3⟩,hKt (hKt k2 q2) (hKb _ _ _ _ (by omega) l3 rfl)⟩;rw [World.putObj_heap_same hlt,hL];rfl
  |ret=>exact hp.elim
  |exit id=>exact hp.elim
  |goto t=>exact hp.elim
  |panic ch=>exact hp.elim
  |outgrown=>exact hp.elim
 ·refine ⟨⟨?_,?_⟩,vl,vd⟩
  ·rw [<-hV];exact hI.alloc _ (hI.alloc _ h0)
  ·rw [<-hV];simp
 ·rintro e W2 ⟨⟨v,rfl⟩,xs,hS,⟨i1,i2⟩,i3,i4⟩;exact ⟨none,_,by have:=run_endLoop (P:=P) i3 (by rw [hL];simp);rw [hL] at this;exact this,hdone _ xs _ (Nat.le_refl _) hS (hI.putObj _ i1 (by omega) i3 rfl) ((World.putObj_heap_other (by omega)).trans i4)⟩
end
end Go.Proofs.Xc
end
section
namespace Go.Proofs.Xc
open Go.RowKit Go.Proofs.Pw Go.Proofs.Pl Go.Proofs.Pm
attribute [local go_sem] a9z baz bkz blz a2z a3z bbz bcz
attribute [local go_sem] Oper.semAt_some
def four4 (n:Int):List Int:= [n / 256 / 256 / 256 % 256,n / 256 / 256 % 256,n / 256 % 256,n % 256]
def laidL (ahead:Nat) (b:List Int):List Int:=(four4 (b.length:Int)).drop (4 - ahead)++b
def KpC (ex:Nat->Prop) (W W':World):Prop:=W.heap.size<=W'.heap.size/\ ∀(k:Nat) (o:Obj),W.heap[k]?=some o->o.isCells=true-> ¬ex k->W'.heap[k]?=some o
theorem KpC.trans {ex:Nat->Prop} {A B C:World} (h:KpC ex A B) (k:KpC ex B C):KpC ex A C:=⟨Nat.le_trans h.1 k.1,fun i o hi ho he=>k.2 i o (h.2 i o hi ho he) ho he⟩
theorem KpC.refl (ex:Nat->Prop) (A:World):KpC ex A A:=⟨Nat.le_refl _,fun _ _ h _ _=>h⟩
theorem KpC.of_below {ex:Nat->Prop} {A B:World} (h:Below A.heap.size A B):KpC ex A B:=⟨h.size,fun k o hk _ _=>(h.block k (a5z hk)).trans hk⟩
def ItN (all:List Int) (m:Nat) (x:Nat×Int) (_:World):Prop:=x.1=m/\all[m]?=some x.2
theorem laid.calls (ahead:Int) (A:Option Addr) (n c:Nat) (W:World):Calls Tryz.prog 90 #[.int .i64 ahead, .slice A n c] W fun e w'=>e= .returned (.func (.func 134) #[] #[.pointer (some ⟨W.heap.size+1,0,none⟩), .pointer (some ⟨W.heap.size,0,none⟩)])/\w'=(W.alloc (.cells #[.int .i64 ahead] 3)).alloc (.cells #[.slice A n c] 34):=by
 have hmf: ∀(fn:Fn) (first cap:Array Value) (w:World),(Instr.makeFunc fn first cap).run Tryz.prog w= .ok (.func fn first cap) w:=fun _ _ _ _=>rfl
 go_enter Tryz.func90,Tryz.ntmps90;go_wp2;go_ret;exact ⟨by simp,rfl⟩
theorem C_numsK {k:IntKind} {w:World} {g:Nat} {t:TypeId} {xs:List Int} (h:w.heap[g]?=some (.cells (nums k xs).toArray t (0,0))) (hl:xs.length<=9223372036854775807):Kd.C (Kd.int k) w (some ⟨g,0,none⟩) xs.length xs:=by
 refine ⟨rfl,hl,fun _=>⟨_,rfl,fun j p hp=>⟨[.int k p],rfl,rfl,fun i u hu=> ?_⟩⟩⟩;obtain ⟨hj,rfl⟩:=List.getElem?_eq_some_iff.1 hp
 cases i with
 |succ i=>simp at hu
 |zero=>
  obtain rfl:Value.int k xs[j] =u:=by simpa using hu
  have e:(⟨g,0,none⟩:Addr).add (j*(Kd.int k).sz+0)=⟨g,j,none⟩:=by
   show (⟨g,0,none⟩:Addr).add (j*1+0)=_;unfold Addr.add;split<;>simp_all
  rw [e,acz h j];simp [nums,hj]
theorem C_twoB {w:World} {g cx cy:Nat} {X Y:Option Addr} {x y:List Int} (h:w.heap[g]?=some (.cells #[.slice X x.length cx, .slice Y y.length cy] 34 (0,0))) (h1:x.length<=cx) (h2:y.length<=cy) (hx:Kd.C (Kd.int .u8) w X x.length x) (hy:Kd.C (Kd.int .u8) w Y y.length y):Kd.C (Kd.slice 5 (Kd.int .u8)) w (some ⟨g,0,none⟩) [x,y].length [x,y] :=by
 have ad: ∀j,(⟨g,0,none⟩:Addr).add (j*1+0)=⟨g,j,none⟩:=fun j=>by
  unfold Addr.add;split<;>simp_all
 refine ⟨rfl,by simp,fun _=>⟨_,rfl,fun j p hp=> ?_⟩⟩
 match j,hp with
 |0,hp=>
  obtain rfl:x=p:=by simpa using hp
  refine ⟨[.slice X x.length cx],rfl,⟨X,cx,rfl,h1,hx⟩,fun i u hu=> ?_⟩
  cases i with
  |succ i=>simp at hu
  |zero=>
   obtain rfl:Value.slice X x.length cx=u:=by simpa using hu
   rw [show (⟨g,0,none⟩:Addr).add (0*(Kd.slice 5 (Kd.int .u8)).sz+0)=⟨g,0,none⟩ from ad 0,acz h 0];rfl
 |1,hp=>
  obtain rfl:y=p:=by simpa using hp
  refine ⟨[.slice Y y.length cy],rfl,⟨Y,cy,rfl,h2,hy⟩,fun i u hu=> ?_⟩
  cases i with
  |succ i=>simp at hu
  |zero=>
   obtain rfl:Value.slice Y y.length cy=u:=by simpa using hu
   rw [show (⟨g,0,none⟩:Addr).add (1*(Kd.slice 5 (Kd.int .u8)).sz+0)=⟨g,1,none⟩ from ad 1,acz h 1];rfl
 |j+2,hp=>simp at hp
theorem laid1_in0 (l b1 b2 n c : Nat) (ex : Nat -> Prop) (A : Option Addr) (b : List Int) (W : World) (J : List (Nat × Int) -> World -> Prop)
  (hb:Kd.C (Kd.int .u8) W A b.length b) (hn:b.length=n) (hnc:n<=c) (hnn:n<=100000) (hB1:W.heap[b1]?=some (.cells #[.int .i64 0] 3 (0,0))) (hB2:W.heap[b2]?=some (.cells #[.slice A n c] 34 (0,0))) (hex: ∀k,ex k->k<W.heap.size) (hJ: ∀s X Y,J s X->X.grownBy Y none->J s Y)
  (hY: ∀pre x W1,J pre W1->ItN (laidL 0 b) pre.length x W1->pre.length<(laidL 0 b).length->YieldAt Fence.wide (7 - 1) Tryz.prog l #[.int .i64 (x.1:Int), .int .u8 x.2] W1 fun e W'=>e= .returned (.bool true)/\J (pre++ [x]) W'/\KpC ex W1 W') (hJ0:J [] W):
  CallsIn Fence.wide 7 Tryz.prog 134 #[.func (.yield l) #[] #[], .pointer (some ⟨b2,0,none⟩), .pointer (some ⟨b1,0,none⟩)] W fun e W'=>(∃v,e= .returned v)/\ ∃xs:List (Nat×Int),xs.map Prod.snd=laidL 0 b/\xs.length=(laidL 0 b).length/\J xs W':=by
 obtain ⟨all,hall⟩: ∃all,laidL 0 b=all:=⟨_,rfl⟩;have HAL0:=Aside0.mk hall;rw [hall] at hY|-;clear hall;have hc1:W.cell? ⟨b1,0,none⟩=some (.int .i64 0):=(acz hB1 0).trans rfl;have hc2:W.cell? ⟨b2,0,none⟩=some (.slice A n c):=(acz hB2 0).trans rfl;have HB:=Aside0.mk hb;have HN:=Aside0.mk hn;have HEX:=Aside0.mk hex;have HJ:=Aside0.mk hJ;have HY:=Aside0.mk hY;have HJ0:=Aside0.mk hJ0;have HB1:=Aside0.mk hB1;have HB2:=Aside0.mk hB2;have n0:(0:Int)<=(n:Int):=by omega
 have d1:(0:Int)<=(n:Int) / 256:=by omega
 have d2:(0:Int)<=(n:Int) / 256 / 256:=by omega
 have d3:(0:Int)<=(n:Int) / 256 / 256 / 256:=by omega
 clear hb hn hex hJ hY hJ0 hB1 hB2;refine callsIn_of_wp Tryz.func134 rfl trivial ?_ rfl;simp only [Tryz.ntmps134,List.size_toArray,List.length_cons,List.length_nil,Nat.reduceAdd,Nat.reduceSub,Array.replicate_succ,Array.replicate_zero,List.push_toArray,List.append_toArray,List.nil_append,List.cons_append]
 gi_wp2
 have hf4:four4 (n:Int)= [(n:Int) / 256 / 256 / 256,(n:Int) / 256 / 256,(n:Int) / 256 % 256,(n:Int) % 256] :=by unfold four4;simp;omega
 have HF4:=Aside0.mk hf4
 generalize (n:Int) / 256 / 256 / 256=f0 at *
 generalize (n:Int) / 256 / 256=f1 at *
 generalize (n:Int) / 256 % 256=f2 at *
 generalize (n:Int) % 256=f3 at *
 generalize (n:Int) / 256=f5 at *
 have HFB:=Aside0.mk (heap_alloc_new W (.cells #[.int .u8 f0, .int .u8 f1, .int .u8 f2, .int .u8 f3] 43));have HBW:=Aside0.mk (anz (Below.refl W.heap.size W) (.cells #[.int .u8 f0, .int .u8 f1, .int .u8 f2, .int .u8 f3] 43));have hz1:=World.size_alloc W (.cells #[.int .u8 f0, .int .u8 f1, .int .u8 f2, .int .u8 f3] 43);have HSZ:=Aside0.mk hz1;clear hf4 d1 d2 d3 hz1;generalize W.alloc (.cells #[.int .u8 f0, .int .u8 f1, .int .u8 f2, .int .u8 f3] 43)=w1 at HFB HBW HSZ|-;obtain ⟨fb,hfb⟩: ∃fb,fb=W.heap.size:=⟨_,rfl⟩;have HFE:=Aside0.mk hfb;rw [<-hfb] at HFB|-;clear hfb;have e1:w1.cell? ⟨b1,0,none⟩=some (.int .i64 0):=(acz (aMz HB1.out HBW.out) 0).trans rfl;have e2:w1.cell? ⟨b2,0,none⟩=some (.slice A n c):=(acz (aMz HB2.out HBW.out) 0).trans rfl;have hw4:wrap64 4=4:=by unfold wrap64;omega
 have hw0:wrap64 0=0:=by unfold wrap64;omega
 clear hc1 hc2
 have HALL:=Aside0.mk (show [[],b].flatten=all by
  rw [<-HAL0.out];unfold laidL;rw [HN.out,HF4.out]
  simp)
 have HALN:=Aside0.mk (show all.length=n+0 by rw [<-HALL.out];simp [HN.out];try omega);have hcc:=C_twoB (w:=(w1.alloc (.cells #[.slice (some ⟨fb,0,none⟩) 0 0, .slice A n c] 34)).drew) (g:=w1.heap.size) (x:= []) (y:=b) (X:=some ⟨fb,0,none⟩) (cx:=0) (Y:=A) (cy:=c) (by rw [HN.out];exact heap_alloc_new _ _) (by simp) (by rw [HN.out];exact hnc) ⟨rfl,by simp,fun h=>absurd h (by decide)⟩ (Kd.bvz (Kd.aLz (Kd.aLz HB.out HBW.out) (anz (Below.refl _ _) _)) 1);have HCON:=Aside0.mk (concat_b.calls (some ⟨w1.heap.size,0,none⟩) 2 [[],b] (w1.alloc (.cells #[.slice (some ⟨fb,0,none⟩) 0 0, .slice A n c] 34)).drew hcc (by simp) (by rw [HALL.out,HALN.out];omega));rw [HALL.out,show [[],b].length=2 from rfl] at HCON;clear hcc;refine (wpIn_wide (n:=7)).2 ?_;refine bPz (n:=8) (S:=fun w'=>w'.cell? ⟨b1,0,none⟩=some (.int .i64 0)/\w'.cell? ⟨b2,0,none⟩=some (.slice A n c)) (ds:= [5]) (bA 8 0) kr_ rfl rfl ⟨e1,e2⟩ (fun hHeld=> ?_)
 refine pu_ 7 32 128 ?_;refine tk_ 0 25 129 hHeld ?_;refine pu_ 1 26 131 ?_;refine pu_ 2 27 135 ?_;refine tk_ 3 28 143 hHeld ?_;refine one_ (i:=4) (N:=some 29) (bA 8 159) rfl rfl kr_ (by decide) (fun K hK=> ?_);refine ccz (w1:= ?_) (v:= ?_) (by rfl) rfl ?_ ?_;rotate_left 2
 ·go_simp;constructor
  ·rfl
  ·rfl
 refine hK.out _ _ ⟨(World.cell?_alloc_past _ _ _ (World.block_lt_of_cell? _ _ e1)).trans e1,(World.cell?_alloc_past _ _ _ (World.block_lt_of_cell? _ _ e2)).trans e2⟩ (fun hHeld=> ?_);clear hK K;refine norm_ (a':= ?_) ?_ ?_;rotate_left
 ·show Act.put _ (some 29) _=_;simp only [Act.put,List.setIfInBounds_toArray,List.set_cons_zero,List.set_cons_succ,i64_w,i32_w];rfl
 refine last_ (i:=5) (N:=some 30) (bA 8 191) rfl rfl kr_ (by decide) (fun K hK=> ?_);refine goes_ Tryz.func135 kr_ rfl #[.slice (some ⟨w1.heap.size,0,none⟩) 2 2] (by rfl) rfl rfl am_ ?_
 with_reducible refine (HCON.out).mono ?_
 rintro e w4 ⟨v4,rfl,r1,r2⟩;refine ⟨_,rfl,?_⟩;obtain ⟨va,vc,rfl⟩:=Kd.bgz r1;have R1:=Aside0.mk r1;have R2:=Aside0.mk r2;clear r1 r2;refine hK.out _ _ ?_;clear hK K;refine norm_ (a':= ?_) ?_ ?_;rotate_left
 ·show Act.put _ (some 30) _=_;simp only [Act.put,List.setIfInBounds_toArray,List.set_cons_zero,List.set_cons_succ,i64_w,i32_w];rfl
 refine pu_ 6 31 255 ?_;refine done_ kr_ ?_;have HW4:=Aside0.mk (show Below W.heap.size W w4 from HBW.out.trans ((show Below w1.heap.size w1 w4 from (show Below w1.heap.size w1 (w1.alloc (.cells #[.slice (some ⟨fb,0,none⟩) 0 0, .slice A n c] 34)).drew from cDz (anz (Below.refl _ _) _)).trans (R2.out.mono (by simp))).mono HBW.out.size));have hR1:=R1.out
 have HR4:=Aside0.mk (show∀w5,KpC ex w4 w5->Kd.C (Kd.int .u8) w5 va all.length all from fun w5 hk=>(Kd.aRz (Kd.c2z (Kd.b1z rfl hR1) (fun k hk2=>by
  obtain ⟨cells,hc⟩:=Kd.R_typed hR1 k hk2.symm;have h1:=Kd.cbz hR1 k hk2.symm
  exact (hk.2 k _ hc rfl (fun e=>by have:=HEX.out k e;have h3:=HBW.out.size;simp at h1;omega)).trans hc.symm))).2.2)
 have HJ4:=Aside0.mk (show J [] w4 from HJ.out _ W w4 HJ0.out ⟨HW4.out.os,HW4.out.tape,HW4.out.output,HW4.out.size,fun i hi _=>HW4.out.block i hi⟩);obtain ⟨N,hN⟩: ∃N,all.length=N:=⟨_,rfl⟩;have HNN:=Aside0.mk hN;have hNb:N<=1000000:=by have:=HALN.out;omega
 rw [hN] at HR4 HY|-;clear hR1 hN e1 e2 hw4 hw0 HCON HALL HF4
 gi_wp2
 gi_loopw [32] (fun iv wr=> ∃(k:Nat) (pre:List (Nat×Int)),k<=N/\iv= .int .i64 (k:Int)/\Aside0 (pre.map Prod.snd=all.take k)/\Aside0 (J pre wr)/\Aside0 (KpC ex w4 wr)) (fun iv _=>N - (intOf iv).toNat)
 case atStart=>exact ⟨0, [],Nat.zero_le _,rfl,⟨rfl⟩,HJ4,⟨KpC.refl _ _⟩⟩
 clear HJ4;obtain ⟨w5,rfl⟩: ∃w',w'=wr:=⟨_,rfl⟩;obtain ⟨k,pre,hk,rfl,HP,HJP,HK⟩:=hrel;by_cases hlt:k<N
 ·obtain ⟨x,hx⟩: ∃x,all[k]?=some x:=⟨_,List.getElem?_eq_getElem (by have:=HNN.out;omega)⟩;obtain ⟨ad,rfl,hcx⟩:=ckz (HNN.out.symm▸HR4.out w5 HK.out) k x hx;have hpl:pre.length=k:=by have:=congrArg List.length HP.out;simp at this;have:=HNN.out;omega
  obtain ⟨fn,tmps,assign,body,hy,hR⟩:=HY.out pre (k,x) w5 HJP.out (by rw [hpl];exact ⟨rfl,hx⟩) (by omega);have HRR:=Aside0.mk hR;have HP2:=Aside0.mk (show (pre++ [(k,x)]).map Prod.snd=all.take (k+1) by rw [List.map_append,HP.out,List.take_add_one,hx];rfl);have k1:(0:Int)<=(k:Int):=by omega
  have k2:(k:Int)<(N:Int):=by omega
  dsimp only at hy;clear hR hx hpl
  gi_wp2
  refine HRR.out.mono ?_;rintro e w6 ⟨rfl,hJ3,hk3⟩;have HJ3:=Aside0.mk hJ3;have HK3:=Aside0.mk (HK.out.trans hk3);clear hy hJ3 hk3 hcx
  gi_wp2
  go_roundw
  case rel=>exact ⟨k+1,pre++ [(k,x)],by omega,by go_num,HP2,HJ3,HK3⟩
  case measure=>simp [intOf];omega
 ·obtain rfl:k=N:=by omega
  have HE:=Aside0.mk (show pre.map Prod.snd=all by rw [HP.out,List.take_of_length_le (by rw [HNN.out];exact Nat.le_refl _)])
  gi_wp2
  go_end0
  exact ⟨⟨_,rfl⟩,pre,HE.out,by rw [<-HE.out,List.length_map],HJP.out⟩
theorem laid1_in4 (l b1 b2 n c : Nat) (ex : Nat -> Prop) (A : Option Addr) (b : List Int) (W : World) (J : List (Nat × Int) -> World -> Prop)
  (hb:Kd.C (Kd.int .u8) W A b.length b) (hn:b.length=n) (hnc:n<=c) (hnn:n<=100000) (hB1:W.heap[b1]?=some (.cells #[.int .i64 4] 3 (0,0))) (hB2:W.heap[b2]?=some (.cells #[.slice A n c] 34 (0,0))) (hex: ∀k,ex k->k<W.heap.size) (hJ: ∀s X Y,J s X->X.grownBy Y none->J s Y)
  (hY: ∀pre x W1,J pre W1->ItN (laidL 4 b) pre.length x W1->pre.length<(laidL 4 b).length->YieldAt Fence.wide (7 - 1) Tryz.prog l #[.int .i64 (x.1:Int), .int .u8 x.2] W1 fun e W'=>e= .returned (.bool true)/\J (pre++ [x]) W'/\KpC ex W1 W') (hJ0:J [] W):
  CallsIn Fence.wide 7 Tryz.prog 134 #[.func (.yield l) #[] #[], .pointer (some ⟨b2,0,none⟩), .pointer (some ⟨b1,0,none⟩)] W fun e W'=>(∃v,e= .returned v)/\ ∃xs:List (Nat×Int),xs.map Prod.snd=laidL 4 b/\xs.length=(laidL 4 b).length/\J xs W':=by
 obtain ⟨all,hall⟩: ∃all,laidL 4 b=all:=⟨_,rfl⟩;have HAL0:=Aside0.mk hall;rw [hall] at hY|-;clear hall;have hc1:W.cell? ⟨b1,0,none⟩=some (.int .i64 4):=(acz hB1 0).trans rfl;have hc2:W.cell? ⟨b2,0,none⟩=some (.slice A n c):=(acz hB2 0).trans rfl;have HB:=Aside0.mk hb;have HN:=Aside0.mk hn;have HEX:=Aside0.mk hex;have HJ:=Aside0.mk hJ;have HY:=Aside0.mk hY;have HJ0:=Aside0.mk hJ0;have HB1:=Aside0.mk hB1;have HB2:=Aside0.mk hB2;have n0:(0:Int)<=(n:Int):=by omega
 have d1:(0:Int)<=(n:Int) / 256:=by omega
 have d2:(0:Int)<=(n:Int) / 256 / 256:=by omega
 have d3:(0:Int)<=(n:Int) / 256 / 256 / 256:=by omega
 clear hb hn hex hJ hY hJ0 hB1 hB2;refine callsIn_of_wp Tryz.func134 rfl trivial ?_ rfl;simp only [Tryz.ntmps134,List.size_toArray,List.length_cons,List.length_nil,Nat.reduceAdd,Nat.reduceSub,Array.replicate_succ,Array.replicate_zero,List.push_toArray,List.append_toArray,List.nil_append,List.cons_append]
 gi_wp2
 have hf4:four4 (n:Int)= [(n:Int) / 256 / 256 / 256,(n:Int) / 256 / 256,(n:Int) / 256 % 256,(n:Int) % 256] :=by unfold four4;simp;omega
 have HF4:=Aside0.mk hf4
 generalize (n:Int) / 256 / 256 / 256=f0 at *
 generalize (n:Int) / 256 / 256=f1 at *
 generalize (n:Int) / 256 % 256=f2 at *
 generalize (n:Int) % 256=f3 at *
 generalize (n:Int) / 256=f5 at *
 have HFB:=Aside0.mk (heap_alloc_new W (.cells #[.int .u8 f0, .int .u8 f1, .int .u8 f2, .int .u8 f3] 43));have HBW:=Aside0.mk (anz (Below.refl W.heap.size W) (.cells #[.int .u8 f0, .int .u8 f1, .int .u8 f2, .int .u8 f3] 43));have hz1:=World.size_alloc W (.cells #[.int .u8 f0, .int .u8 f1, .int .u8 f2, .int .u8 f3] 43);have HSZ:=Aside0.mk hz1;clear hf4 d1 d2 d3 hz1;generalize W.alloc (.cells #[.int .u8 f0, .int .u8 f1, .int .u8 f2, .int .u8 f3] 43)=w1 at HFB HBW HSZ|-;obtain ⟨fb,hfb⟩: ∃fb,fb=W.heap.size:=⟨_,rfl⟩;have HFE:=Aside0.mk hfb;rw [<-hfb] at HFB|-;clear hfb;have e1:w1.cell? ⟨b1,0,none⟩=some (.int .i64 4):=(acz (aMz HB1.out HBW.out) 0).trans rfl;have e2:w1.cell? ⟨b2,0,none⟩=some (.slice A n c):=(acz (aMz HB2.out HBW.out) 0).trans rfl;have hw4:wrap64 4=4:=by unfold wrap64;omega
 have hw0:wrap64 0=0:=by unfold wrap64;omega
 clear hc1 hc2
 have HALL:=Aside0.mk (show [[f0,f1,f2,f3],b].flatten=all by
  rw [<-HAL0.out];unfold laidL;rw [HN.out,HF4.out]
  simp)
 have HALN:=Aside0.mk (show all.length=n+4 by rw [<-HALL.out];simp [HN.out];try omega);have hcc:=C_twoB (w:=(w1.alloc (.cells #[.slice (some ⟨fb,0,none⟩) 4 4, .slice A n c] 34)).drew) (g:=w1.heap.size) (x:= [f0,f1,f2,f3]) (y:=b) (X:=some ⟨fb,0,none⟩) (cx:=4) (Y:=A) (cy:=c) (by rw [HN.out];exact heap_alloc_new _ _) (by simp) (by rw [HN.out];exact hnc) (C_numsK (k:= .u8) (xs:= [f0,f1,f2,f3]) (w:=(w1.alloc (.cells #[.slice (some ⟨fb,0,none⟩) 4 4, .slice A n c] 34)).drew) (aMz HFB.out (cDz (anz (Below.refl _ _) _))) (by simp)) (Kd.bvz (Kd.aLz (Kd.aLz HB.out HBW.out) (anz (Below.refl _ _) _)) 1);have HCON:=Aside0.mk (concat_b.calls (some ⟨w1.heap.size,0,none⟩) 2 [[f0,f1,f2,f3],b] (w1.alloc (.cells #[.slice (some ⟨fb,0,none⟩) 4 4, .slice A n c] 34)).drew hcc (by simp) (by rw [HALL.out,HALN.out];omega));rw [HALL.out,show [[f0,f1,f2,f3],b].length=2 from rfl] at HCON;clear hcc;refine (wpIn_wide (n:=7)).2 ?_
 refine bPz (n:=8) (S:=fun w'=>w'.cell? ⟨b1,0,none⟩=some (.int .i64 4)/\w'.cell? ⟨b2,0,none⟩=some (.slice A n c)) (ds:= [5]) (bA 8 0) kr_ rfl rfl ⟨e1,e2⟩ (fun hHeld=> ?_);refine pu_ 7 32 128 ?_;refine tk_ 0 25 129 hHeld ?_;refine pu_ 1 26 131 ?_;refine pu_ 2 27 135 ?_;refine tk_ 3 28 143 hHeld ?_;refine one_ (i:=4) (N:=some 29) (bA 8 159) rfl rfl kr_ (by decide) (fun K hK=> ?_);refine ccz (w1:= ?_) (v:= ?_) (by rfl) rfl ?_ ?_;rotate_left 2
 ·go_simp;constructor
  ·rfl
  ·rfl
 refine hK.out _ _ ⟨(World.cell?_alloc_past _ _ _ (World.block_lt_of_cell? _ _ e1)).trans e1,(World.cell?_alloc_past _ _ _ (World.block_lt_of_cell? _ _ e2)).trans e2⟩ (fun hHeld=> ?_);clear hK K;refine norm_ (a':= ?_) ?_ ?_;rotate_left
 ·show Act.put _ (some 29) _=_;simp only [Act.put,List.setIfInBounds_toArray,List.set_cons_zero,List.set_cons_succ,i64_w,i32_w];rfl
 refine last_ (i:=5) (N:=some 30) (bA 8 191) rfl rfl kr_ (by decide) (fun K hK=> ?_);refine goes_ Tryz.func135 kr_ rfl #[.slice (some ⟨w1.heap.size,0,none⟩) 2 2] (by rfl) rfl rfl am_ ?_
 with_reducible refine (HCON.out).mono ?_
 rintro e w4 ⟨v4,rfl,r1,r2⟩;refine ⟨_,rfl,?_⟩;obtain ⟨va,vc,rfl⟩:=Kd.bgz r1;have R1:=Aside0.mk r1;have R2:=Aside0.mk r2;clear r1 r2;refine hK.out _ _ ?_;clear hK K;refine norm_ (a':= ?_) ?_ ?_;rotate_left
 ·show Act.put _ (some 30) _=_;simp only [Act.put,List.setIfInBounds_toArray,List.set_cons_zero,List.set_cons_succ,i64_w,i32_w];rfl
 refine pu_ 6 31 255 ?_;refine done_ kr_ ?_;have HW4:=Aside0.mk (show Below W.heap.size W w4 from HBW.out.trans ((show Below w1.heap.size w1 w4 from (show Below w1.heap.size w1 (w1.alloc (.cells #[.slice (some ⟨fb,0,none⟩) 4 4, .slice A n c] 34)).drew from cDz (anz (Below.refl _ _) _)).trans (R2.out.mono (by simp))).mono HBW.out.size));have hR1:=R1.out
 have HR4:=Aside0.mk (show∀w5,KpC ex w4 w5->Kd.C (Kd.int .u8) w5 va all.length all from fun w5 hk=>(Kd.aRz (Kd.c2z (Kd.b1z rfl hR1) (fun k hk2=>by
  obtain ⟨cells,hc⟩:=Kd.R_typed hR1 k hk2.symm;have h1:=Kd.cbz hR1 k hk2.symm
  exact (hk.2 k _ hc rfl (fun e=>by have:=HEX.out k e;have h3:=HBW.out.size;simp at h1;omega)).trans hc.symm))).2.2)
 have HJ4:=Aside0.mk (show J [] w4 from HJ.out _ W w4 HJ0.out ⟨HW4.out.os,HW4.out.tape,HW4.out.output,HW4.out.size,fun i hi _=>HW4.out.block i hi⟩);obtain ⟨N,hN⟩: ∃N,all.length=N:=⟨_,rfl⟩;have HNN:=Aside0.mk hN;have hNb:N<=1000000:=by have:=HALN.out;omega
 rw [hN] at HR4 HY|-;clear hR1 hN e1 e2 hw4 hw0 HCON HALL HF4
 gi_wp2
 gi_loopw [32] (fun iv wr=> ∃(k:Nat) (pre:List (Nat×Int)),k<=N/\iv= .int .i64 (k:Int)/\Aside0 (pre.map Prod.snd=all.take k)/\Aside0 (J pre wr)/\Aside0 (KpC ex w4 wr)) (fun iv _=>N - (intOf iv).toNat)
 case atStart=>exact ⟨0, [],Nat.zero_le _,rfl,⟨rfl⟩,HJ4,⟨KpC.refl _ _⟩⟩
 clear HJ4;obtain ⟨w5,rfl⟩: ∃w',w'=wr:=⟨_,rfl⟩;obtain ⟨k,pre,hk,rfl,HP,HJP,HK⟩:=hrel;by_cases hlt:k<N
 ·obtain ⟨x,hx⟩: ∃x,all[k]?=some x:=⟨_,List.getElem?_eq_getElem (by have:=HNN.out;omega)⟩;obtain ⟨ad,rfl,hcx⟩:=ckz (HNN.out.symm▸HR4.out w5 HK.out) k x hx;have hpl:pre.length=k:=by have:=congrArg List.length HP.out;simp at this;have:=HNN.out;omega
  obtain ⟨fn,tmps,assign,body,hy,hR⟩:=HY.out pre (k,x) w5 HJP.out (by rw [hpl];exact ⟨rfl,hx⟩) (by omega);have HRR:=Aside0.mk hR;have HP2:=Aside0.mk (show (pre++ [(k,x)]).map Prod.snd=all.take (k+1) by rw [List.map_append,HP.out,List.take_add_one,hx];rfl);have k1:(0:Int)<=(k:Int):=by omega
  have k2:(k:Int)<(N:Int):=by omega
  dsimp only at hy;clear hR hx hpl
  gi_wp2
  refine HRR.out.mono ?_;rintro e w6 ⟨rfl,hJ3,hk3⟩;have HJ3:=Aside0.mk hJ3;have HK3:=Aside0.mk (HK.out.trans hk3);clear hy hJ3 hk3 hcx
  gi_wp2
  go_roundw
  case rel=>exact ⟨k+1,pre++ [(k,x)],by omega,by go_num,HP2,HJ3,HK3⟩
  case measure=>simp [intOf];omega
 ·obtain rfl:k=N:=by omega
  have HE:=Aside0.mk (show pre.map Prod.snd=all by rw [HP.out,List.take_of_length_le (by rw [HNN.out];exact Nat.le_refl _)])
  gi_wp2
  go_end0
  exact ⟨⟨_,rfl⟩,pre,HE.out,by rw [<-HE.out,List.length_map],HJP.out⟩
theorem laid_seq (ahead b1 b2 n c : Nat) (hah : ahead = 0 \/ ahead = 4) (ex : Nat -> Prop) (A : Option Addr) (b : List Int) (w : World)
  (hb:Kd.C (Kd.int .u8) w A b.length b) (hn:b.length=n) (hnc:n<=c) (hnn:n<=100000) (hB1:w.heap[b1]?=some (.cells #[.int .i64 (ahead:Int)] 3 (0,0))) (hB2:w.heap[b2]?=some (.cells #[.slice A n c] 34 (0,0))) (hex: ∀k,ex k->k<w.heap.size):
  SeqN Fence.wide 7 Tryz.prog 134 #[.pointer (some ⟨b2,0,none⟩), .pointer (some ⟨b1,0,none⟩)] (fun x:Nat×Int=> #[.int .i64 (x.1:Int), .int .u8 x.2]) (ItN (laidL ahead b)) (KpC ex) (fun xs=>xs.map Prod.snd=laidL ahead b/\xs.length=(laidL ahead b).length) (laidL ahead b).length w:=by
 intro l J W hW hJ hY hJ0;have h1:=aMz hB1 hW;have h2:=aMz hB2 hW;have h3:=Kd.aLz hb hW;have h4: ∀k,ex k->k<W.heap.size:=fun k hk=>Nat.lt_of_lt_of_le (hex k hk) hW.size
 rcases hah with rfl|rfl
 ·refine (laid1_in0 l b1 b2 n c ex A b W J h3 hn hnc hnn h1 h2 h4 hJ hY hJ0).mono ?_;rintro e W' ⟨hv,xs,q1,q2,q3⟩;exact ⟨hv,xs,⟨q1,q2⟩,q3⟩
 ·refine (laid1_in4 l b1 b2 n c ex A b W J h3 hn hnc hnn h1 h2 h4 hJ hY hJ0).mono ?_;rintro e W' ⟨hv,xs,q1,q2,q3⟩;exact ⟨hv,xs,⟨q1,q2⟩,q3⟩
end Go.Proofs.Xc
end
section
namespace Go.Proofs.Xc
open Go.RowKit Go.Proofs.Pw Go.Proofs.Pl Go.Proofs.Pm
attribute [local go_sem] a9z baz bkz blz a2z a3z bbz bcz
def regOnly (K:Act->World->Prop):Exit->Act->World->Prop
 | .normal,a,w=>K a w
 |_,_,_=>False
theorem regOnly_normal {K:Act->World->Prop} {a:Act} {w:World} (h:K a w):regOnly K .normal a w:=h
theorem regOnly_ {P:Program} {c:Code} {Q:Exit->Act->World->Prop} {a:Act} {w:World} (h:c.wp P (regOnly (Q .normal)) a w):c.wp P Q a w:=
 wp_mono h fun e a w h=>by
  cases e with
  |normal=>exact h
  |_=>exact h.elim
theorem S_new {e t : Nat} {k : IntKind} {W : World} {base o n cap : Nat} {ok : Nat -> Prop} {rows : List (List Int)} (h : Kd.S (dM e k) t W base ok (.slice (some ⟨o, 0, none⟩) n cap) rows) (hb : base <= W.heap.size) (hok : ∀ q, W.heap.size <= q -> ok q) (i : Nat) (hi : i < n) (xs : List Int) (hl : xs.length <= 1000000) :
  Kd.S (dM e k) t (((W.alloc (.cells (nums k xs).toArray e)).setCell ⟨o,i,none⟩ (.slice (some ⟨W.heap.size,0,none⟩) xs.length xs.length))) base ok (.slice (some ⟨o,0,none⟩) n cap) (rows.set i xs):=by
 have hlt:o<W.heap.size:=Kd.S_lt h o (by simp [Value.ownBlock]);have h1:Kd.S (dM e k) t (W.alloc (.cells (nums k xs).toArray e)) base (fun q=>ok q/\ ¬(q=W.heap.size)) (.slice (some ⟨o,0,none⟩) n cap) rows:=Kd.d7z (Kd.cBz (Kd.bLz h) (fun q hq=>⟨hq.1,by have:=hq.2.2.1;omega⟩)) _;obtain ⟨oki,c,hcl,hM,hcc,hfr,hoki,hH⟩:=Kd.S_elem h1 ([] :List Int) (i:Int) (by omega) (by omega);obtain ⟨u,rfl,hu⟩:=hM;have hn0:(W.alloc (.cells (nums k xs).toArray e)).heap[W.heap.size]?=some (.cells (nums k xs).toArray e (0,0)):=heap_alloc_new _ _
 have hR:(Kd.int k).R e (W.alloc (.cells (nums k xs).toArray e)) base (fun q=>q=W.heap.size) (.slice (some ⟨W.heap.size,0,none⟩) xs.length xs.length) xs:=by
  have h2:(Kd.int k).R e (W.alloc (.cells (nums k xs).toArray e)) base (fun _=>True) (.slice (some ⟨W.heap.size,0,none⟩) xs.length xs.length) xs:=
   cVz ⟨by rw [nums_length,Nat.mul_one], .inr ⟨_,xs.length,_,rfl,hb,hn0,Nat.le_refl _,by unfold maxLen;omega,by simp [nums_length],by simp;rw [List.take_of_length_le (by rw [nums_length];exact Nat.le_refl _)]⟩⟩
  exact Kd.aTz (Kd.b1z rfl h2) (fun q hq=>by simpa [Value.ownBlock] using hq)
 have h3:=(Kd.S_seg hH (by omega) (by omega) (seg:= [.slice (some ⟨W.heap.size,0,none⟩) xs.length xs.length]) (j:=0) (Nat.le_refl _) (x':=xs) (okp:=fun q=>q=W.heap.size) ⟨_,rfl,hR⟩ (fun q hq=> .inr hq) (fun q hq=>⟨hok q (by omega),by omega⟩)).1;rw [Int.toNat_natCast,show (dM e k).sz=1 from rfl,Nat.mul_one,Nat.add_zero] at h3;exact h3
theorem S_put2 {e t : Nat} {k : IntKind} {W : World} {base o n cap : Nat} {ok : Nat -> Prop} {rows : List (List Int)} (h : Kd.S (dM e k) t W base ok (.slice (some ⟨o, 0, none⟩) n cap) rows) (i j : Nat) (row : List Int) (hr : rows[i]? = some row) (hj : j < row.length) (x : Int) :
  ∃g c y,W.cell? ⟨o,i,none⟩=some (.slice (some ⟨g,0,none⟩) row.length c)/\W.cell? ⟨g,j,none⟩=some (.int k y)/\W.frozen? ⟨g,j,none⟩=false/\ok g/\g≠o/\Kd.S (dM e k) t (W.setCell ⟨g,j,none⟩ (.int k x)) base ok (.slice (some ⟨o,0,none⟩) n cap) (rows.set i (row.set j x)):=by
 have hil:=(List.getElem?_eq_some_iff.1 hr).1;have hn:=(Kd.cOz h).1;obtain ⟨oki,c,hcl,hM,hcc,hoki,hback⟩:=Kd.S_borrow h ([] :List Int) (i:Int) (by omega) (by omega);rw [Int.toNat_natCast,List.getD_eq_getElem?_getD,hr] at hM;obtain ⟨u,rfl,hu⟩:=hM;have hu':(Kd.int k).R e W base oki u row:=hu;obtain ⟨g,cg,rfl, -, -, -⟩:=Kd.dzz hu' (by omega);have hc0:=hcc 0 _ rfl;rw [Int.toNat_natCast,show (dM e k).sz=1 from rfl,Nat.mul_one,Nat.add_zero] at hc0
 have e1:(⟨o,0,none⟩:Addr).add i=⟨o,i,none⟩:=by
  unfold Addr.add;split<;>simp_all
 rw [e1] at hc0;obtain ⟨hcell,hfroz⟩:=Kd.R_cell (0:Int) hu' (j:Int) (by omega) (by omega);rw [Int.toNat_natCast] at hcell hfroz;have hgo:oki g:=hu'.1 g (by simp [Value.ownBlock]);obtain ⟨hp1,hp2⟩:=Kd.R_put hu' (j:Int) x;rw [Int.toNat_natCast] at hp1 hp2
 have hS:=hback (x':=row.set j x) hp2 (fun q hq=>by
  injection hq with hq
  subst hq;exact hgo) (show (dM e k).M _ _ _ (row.set j x) [.slice (some ⟨g,0,none⟩) row.length cg] from ⟨_,rfl,hp1⟩)
 rw [Int.toNat_natCast] at hS;exact ⟨g,cg,_,hc0,hcell,hfroz,(hoki g hgo).1,fun e=>(hoki g hgo).2 (by simp [Value.ownBlock,e]),hS⟩
theorem S_keepK {k:IntKind} {X Y:World} {base:Nat} {ok:Nat->Prop} {v:Value} {xs:List (List Int)} {e t:Nat} (h:Kd.S (dM e k) t X base ok v xs) (hm: ∀(q:Nat) (o:Obj),X.heap[q]?=some o->o.isCells=true->Y.heap[q]?=X.heap[q]?):Kd.S (dM e k) t Y base ok v xs:=by
 refine Kd.cBz (Kd.S_move (Kd.bLz h) (fun q hq=> ?_)) (fun q hq=>hq.1);obtain ⟨-, -,hlt,z, -,cells,hc⟩:=hq;exact hm q _ hc rfl
theorem make_bytes (n:Nat) (hn:n<=1000000) (W:World):(Instr.makeSlice 34 (.int .i64 (n:Int)) (.int .i64 (n:Int))).run Tryz.prog W= .ok (.slice (some ⟨W.heap.size,0,none⟩) n n) (W.alloc (.cells (nums .u8 (List.replicate n 0)).toArray 5)):=by
 have hinfo:(Tryz.prog.info? 5).map (fun i=>(i.zero,i.size,i.bytes))=some (some (.int .u8 0),1,1):=by kernel_rfl
 obtain ⟨i,hi,he⟩:=Option.map_eq_some_iff.1 hinfo;injection he with hz he
 injection he with hs hb
 have h:=run_make (P:=Tryz.prog) W 34 5 i (.int .u8 0) Tryz.underlying34 hi hz .i64 .i64 n n (by omega) (by omega) (by rw [hb];omega) (by omega);rw [hs,Int.toNat_natCast,Nat.mul_one] at h;rw [h]
 have:madeCells (Value.int .u8 0).cells n=(nums .u8 (List.replicate n 0)).toArray:=by
  apply Array.ext'
  simp [madeCells,nums,Value.cells];apply List.ext_getElem
  ·simp
  ·intro i h1 h2;simp [Nat.mod_one]
 rw [this]
def madeTo (K size i:Nat):List (List Int):=List.replicate i (List.replicate size 0)++List.replicate (K - i) []
theorem madeTo_step (K size i:Nat) (hi:i<K):(madeTo K size i).set i (List.replicate size 0)=madeTo K size (i+1):=by
 unfold madeTo;rw [List.set_append_right _ _ (by simp),List.length_replicate,Nat.sub_self,show K - i=(K - (i+1))+1 by omega,List.replicate_succ,List.set_cons_zero,List.replicate_succ' (n:=i),List.append_assoc];rfl
theorem madeTo_zero (K size:Nat):madeTo K size 0=List.replicate K [] :=by simp [madeTo]
theorem madeTo_full (K size:Nat):madeTo K size K=List.replicate K (List.replicate size 0):=by simp [madeTo]
theorem S_cell {e t:Nat} {k:IntKind} {W:World} {base o n cap:Nat} {ok:Nat->Prop} {rows:List (List Int)} (h:Kd.S (dM e k) t W base ok (.slice (some ⟨o,0,none⟩) n cap) rows) (i:Nat) (hi:i<n): ∃v,W.cell? ⟨o,i,none⟩=some v/\W.frozen? ⟨o,i,none⟩=false:=by
 obtain ⟨oki,c,hcl,hM,hcc,hfr,hoki,hH⟩:=Kd.S_elem h ([] :List Int) (i:Int) (by omega) (by omega);obtain ⟨u,rfl,hu⟩:=hM;have h0:=hcc 0 _ rfl;have h1:=hfr 0;rw [Int.toNat_natCast,show (dM e k).sz=1 from rfl,Nat.mul_one,Nat.add_zero] at h0 h1;exact ⟨_,h0,h1⟩
end Go.Proofs.Xc
end
