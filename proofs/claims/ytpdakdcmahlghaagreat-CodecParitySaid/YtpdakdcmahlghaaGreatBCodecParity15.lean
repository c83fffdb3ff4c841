-- Joined texts of this work (wip/tools/bundle.py).
import Derived.Test.YtpdakdcmahlghaaGreatBCodecParity14
set_option maxHeartbeats 4000000
set_option maxRecDepth 100000
set_option linter.unusedVariables false
set_option linter.unusedSimpArgs false
section
namespace Go.Proofs.Xc
open Go.RowKit Go.Proofs.Pw Go.Proofs.Pl Go.Proofs.Pm
attribute [local go_sem] bfz bgz boz bpz a5z a6z bhz biz
def cutRow (wb c:Int) (i j:Nat) (x:List Int):List Int:=x.set j (Go.bits .xor .i64 (x.getD j 0) (gmul wb (x.getD i 0) c))
def cutTo (wb c:Int) (i j:Nat) (rows:List (List Int)) (k:Nat):List (List Int):=(rows.take k).map (cutRow wb c i j)++rows.drop k
def cutCol (wb c:Int) (i j:Nat) (rows:List (List Int)):List (List Int):=if j=i then rows else rows.map (cutRow wb c i j)
def cutF (wb:Int) (i:Nat):List Int->Nat->List (List Int)->List (List Int)
 | [],_,rows=>rows
 |c::cs,j,rows=>cutF wb i cs (j+1) (cutCol wb c i j rows)
theorem cutTo_zero (wb c:Int) (i j:Nat) (rows:List (List Int)):cutTo wb c i j rows 0=rows:=by simp [cutTo]
theorem cutTo_full (wb c:Int) (i j:Nat) (rows:List (List Int)):cutTo wb c i j rows rows.length=rows.map (cutRow wb c i j):=by simp [cutTo]
theorem cutTo_at (wb c:Int) (i j:Nat) (rows:List (List Int)) (k:Nat) (x:List Int) (h:rows[k]?=some x):(cutTo wb c i j rows k)[k]?=some x:=by
 have hi:=(Zk h).1;unfold cutTo;rw [List.getElem?_append_right (by simp;omega)];simp only [List.length_map,List.length_take,List.getElem?_drop];rw [show k+(k - min k rows.length)=k by omega];exact h
theorem cutTo_step (wb c:Int) (i j:Nat) (rows:List (List Int)) (k:Nat) (x:List Int) (h:rows[k]?=some x):(cutTo wb c i j rows k).set k (cutRow wb c i j x)=cutTo wb c i j rows (k+1):=by
 have hi:=(Zk h).1;obtain ⟨_,e⟩:=Zk h;unfold cutTo;rw [List.set_append_right _ _ (by simp;omega),List.length_map,List.length_take,show k - min k rows.length=0 by omega,List.drop_eq_getElem_cons hi,Zh,List.take_add_one,h,List.map_append,List.append_assoc];rfl
theorem cutRow_length (wb c:Int) (i j:Nat) (x:List Int):(cutRow wb c i j x).length=x.length:=by simp [cutRow]
theorem ezz {wb c:Int} {i j:Nat} {rows:List (List Int)} {L:Nat} (h: ∀r,r∈rows->r.length=L):(∀r,r∈cutCol wb c i j rows->r.length=L)/\(cutCol wb c i j rows).length=rows.length:=by
 unfold cutCol;split
 ·exact ⟨h,rfl⟩
 ·refine ⟨fun r hr=> ?_,by simp⟩;obtain ⟨q,hq,rfl⟩:=List.mem_map.1 hr;rw [cutRow_length];exact h q hq
theorem jclear.calls (g o : Nat) (wb : Int) (S0 S : Nat -> Prop) (n co L i : Nat) (bs : List (Nat × Nat)) (rows : List (List Int)) (row : List Int) (W : World) (hw : wb = 8 \/ wb = 16) (hF : Fd W g wb (fpoly wb) S) (hx : ∀ k, S0 k -> S k) (hS : ∀ k, S k -> k < W.heap.size)
  (hM:Mx W o bs rows) (hSb: ∀(i b c:Nat),bs[i]?=some (b,c)->S0 b) (hn:rows.length=n) (hco:n<=co) (hnn:n<=100) (hL: ∀r,r∈rows->r.length=L) (hLL:L<=100) (hL1:1<=L) (hi:i<n) (hiL:i<L) (hrow:rows[i]?=some row):
  Calls Tryz.prog 158 #[.agg #[.pointer (some ⟨g,0,none⟩), .slice (some ⟨o,0,none⟩) n co], .int .i64 (i:Int)] W fun e w'=>e= .returned (.tuple #[])/\Mx w' o bs (cutF wb i row 0 rows)/\Fd w' g wb (fpoly wb) S/\BS W w' g S0:=by
 have HW:=Za hw;obtain ⟨R0,hR0⟩: ∃R0,cutF wb i row 0 rows=R0:=⟨_,rfl⟩;have HR0:=Za (show cutF wb i (row.drop 0) 0 rows=R0 from hR0);rw [hR0];clear hR0;have HF:=Za (hF.more.alloc (.cells #[.pointer (some ⟨g,0,none⟩), .slice (some ⟨o,0,none⟩) n co] 146));have HX:=Za hx;have HS:=Za hS;have HM:=Za (hM.alloc (.cells #[.pointer (some ⟨g,0,none⟩), .slice (some ⟨o,0,none⟩) n co] 146));have HSB:=Za hSb;have HL:=Za hL;have HN:=Za hn;have hbx:(W.alloc (.cells #[.pointer (some ⟨g,0,none⟩), .slice (some ⟨o,0,none⟩) n co] 146)).heap[W.heap.size]?=some (.cells #[.pointer (some ⟨g,0,none⟩), .slice (some ⟨o,0,none⟩) n co] 146 (0,0)):=heap_alloc_new _ _;have HB:=Za (show BS W (W.alloc (.cells #[.pointer (some ⟨g,0,none⟩), .slice (some ⟨o,0,none⟩) n co] 146)) g S0 from BS.alloc (BS.refl _ _ _) _);have HGL:=Za hF.lt;have HROW:=Za hrow;have HOL:=Za hM.lt_o;have HRL:=Za (hL row (Zo hrow));have i1:(0:Int)<=(i:Int):=by omega
 have i2:(i:Int)<(n:Int):=by omega
 obtain ⟨⟨bi,ci⟩,hbi⟩: ∃q,bs[i]?=some q:=⟨_,Zf (by have:=hM.len;omega)⟩;have hb1:((W.alloc (.cells #[.pointer (some ⟨g,0,none⟩), .slice (some ⟨o,0,none⟩) n co] 146)).alloc (.cells #[] 3)).cell? ⟨W.heap.size,1,none⟩=some (.slice (some ⟨o,0,none⟩) n co):=(abz (bzz hbx _) 1).trans rfl;have hM1:=HM.out.alloc (.cells #[] 3);have hco1:((W.alloc (.cells #[.pointer (some ⟨g,0,none⟩), .slice (some ⟨o,0,none⟩) n co] 146)).alloc (.cells #[] 3)).cell? ⟨o,i,none⟩=some (.slice (some ⟨bi,0,none⟩) L ci):=by rw [hM1.clz hbi hrow,hL row (Zo hrow)]
 have hne:((W.alloc (.cells #[.pointer (some ⟨g,0,none⟩), .slice (some ⟨o,0,none⟩) n co] 146)).alloc (.cells #[] 3)).heap[W.heap.size+1]?=some (.cells #[] 3 (0,0)):=coz _ _ _ (by simp);have HO0:=Za (show ((W.alloc (.cells #[.pointer (some ⟨g,0,none⟩), .slice (some ⟨o,0,none⟩) n co] 146)).alloc (.cells #[] 3)).ownsRow (W.heap.size+1) 3 1 (.slice (some ⟨W.heap.size+1,0,none⟩) 0 0) 0 [] from ⟨rfl, .inr ⟨_,0,_,rfl,Zv _,hne,Zv _,by unfold maxLen;omega,rfl,rfl⟩⟩);have hrc:=reads_C (Mx.C_row hM1 hbi hrow 0 (by rw [HRL.out];omega));rw [List.drop_zero,HRL.out] at hrc;have HRC:=Za hrc;have HBX:=Za (bzz hbx (.cells #[] 3));have HM1:=Za hM1;have HF1:=Za (HF.out.alloc (.cells #[] 3));have HB1:=Za (HB.out.alloc (.cells #[] 3));have HSZ1:=Za (show ((W.alloc (.cells #[.pointer (some ⟨g,0,none⟩), .slice (some ⟨o,0,none⟩) n co] 146)).alloc (.cells #[] 3)).heap.size=W.heap.size+1+1 by simp);clear hw hF hx hS hM hSb hL hn hrow hbx hbi hM1 hne hrc HM HF HB
 go_enter Tryz.func158,Tryz.ntmps158
 go_wp2_with ((with_reducible refine anz (b:= .append) (xs:= #[.tmp 9, .tmp 14]) rfl ?_);go_must (at_builtin;refine cTz (w0:=(W.alloc (.cells #[.pointer (some ⟨g,0,none⟩), .slice (some ⟨o,0,none⟩) n co] 146)).alloc (.cells #[] 3)) (W.heap.size+1) rfl (.tmp 9) (.tmp 14) 57 3 .i64 8 rfl Tryz.underlying57 kr_ (by decide) _ [] row (some ⟨bi,0,none⟩) L ci rfl rfl HO0.out HRC.out (Zw _ _) ?aS ?aL ?_;(case aS=>have:=HSZ1.out;omega);(case aL=>simp;omega));intro v2 w2 ho2 hb2 hg2 hat2;rw [List.nil_append] at ho2;obtain ⟨ru,rc,rfl⟩:=Kd.bcz (cVz ho2);rw [HRL.out];have HO2:=Za (cVz ho2);have HB2:=Za hb2;have HG2:=Za (show ((W.alloc (.cells #[.pointer (some ⟨g,0,none⟩), .slice (some ⟨o,0,none⟩) n co] 146)).alloc (.cells #[] 3)).grownBy w2 (some (W.heap.size+1)) from hg2);clear ho2 hb2 hg2 hat2)
 rw [HRL.out] at HO2;obtain ⟨w1,hw1⟩: ∃w1,(W.alloc (.cells #[.pointer (some ⟨g,0,none⟩), .slice (some ⟨o,0,none⟩) n co] 146)).alloc (.cells #[] 3)=w1:=⟨_,rfl⟩;rw [hw1] at HBX HM1 HF1 HB1 HSZ1 HB2 HG2 hb1 hco1;obtain ⟨fb,hfb⟩: ∃fb,fb=W.heap.size:=⟨_,rfl⟩;have HFB:=Za hfb;have hkeep: ∀q,q<W.heap.size+1->w2.heap[q]?=w1.heap[q]?:=fun q hq=>HG2.out.block q (by have:=HSZ1.out;omega) (fun e=>by cases e;omega)
 have HBX2:=Za ((hkeep W.heap.size (by omega)).trans HBX.out);have hlo:=HM1.out.lt_o;have HM2:=Za (show Mx w2 o bs rows from HM1.out.move (hkeep o (by have:=HOL.out;omega)) (fun q b c hq=>hkeep b (by have:=HS.out b (HX.out b (HSB.out q b c hq));omega)));have HF2:=Za (show Fd w2 g wb (fpoly wb) S from (Fd.grow HF1.out (fun q e=>by cases e;exact .inr (by omega)) HG2.out).thin (fun q _ hs=> .inl (.inl hs)));have HB3:=Za (show BS W w2 g S0 from ⟨HG2.out.os.trans HB1.out.os,HG2.out.tape.trans HB1.out.tape,HG2.out.output.trans HB1.out.output,Zt HB1.out.size HG2.out.size,fun q hq hg hs=>(hkeep q (by omega)).trans (HB1.out.block q hq hg hs)⟩);rw [<-hfb] at HBX2 HO2|-
 generalize (W.heap.size+1+1)=junk at *
 clear hkeep hlo hfb hb1 hco1 hw1 HM1 HF1 HB1 HB2 HG2 HBX HO0 HRC
 go_loopw [18] (fun jv wr=> ∃(j:Nat) (rows':List (List Int)),j<=L/\jv= .int .i64 (j:Int)/\Aside0 (cutF wb i (row.drop j) j rows'=R0)/\Aside0 (rows'.length=n/\ ∀r,r∈rows'->r.length=L)/\Aside0 (Mx wr o bs rows')/\Aside0 (Fd wr g wb (fpoly wb) S)/\Aside0 (BS W wr g S0)/\Aside0 (wr.heap[fb]?=some (.cells #[.pointer (some ⟨g,0,none⟩), .slice (some ⟨o,0,none⟩) n co] 146 (0,0)))/\Aside0 ((Kd.int .i64).R 3 wr (fb+1) (fun _=>True) (.slice ru L rc) row)) (fun jv _=>L - (intOf jv).toNat)
 case atStart=>exact ⟨0,rows,Nat.zero_le _,rfl,HR0,⟨HN.out,HL.out⟩,HM2,HF2,HB3,HBX2,HO2⟩
 clear HR0 HM2 HF2 HB3 HBX2 HO2;obtain ⟨wq,rfl⟩: ∃wq,wq=wr:=⟨_,rfl⟩;obtain ⟨j,rows',hj,rfl,HR,HLR,HM,HF,HB,HBX,HO⟩:=hrel;by_cases hlt:j<L
 ·obtain ⟨c,hc⟩: ∃c,row[j]?=some c:=⟨_,Zf (by have:=HRL.out;omega)⟩;obtain ⟨rad,rfl,hcj⟩:=ckz (Kd.aOz HO.out).2.2 j c hc;have hb1:wq.cell? ⟨fb,1,none⟩=some (.slice (some ⟨o,0,none⟩) n co):=(abz HBX.out 1).trans rfl
  have HR2:=Za (show cutF wb i (row.drop (j+1)) (j+1) (cutCol wb c i j rows')=R0 by
   obtain ⟨h1,h2⟩:=Zk hc;have h:=HR.out;rw [List.drop_eq_getElem_cons h1,h2,cutF] at h
   exact h)
  have j1:(0:Int)<=(j:Int):=by omega
  have j2:(j:Int)<(L:Int):=by omega
  have HM0:=Za (show Mx wq o bs (if j=i then rows' else cutTo wb c i j rows' 0) by rw [cutTo_zero,ite_self];exact HM.out);clear hc;go_wp2
  go_loopw [26] (fun kv w2=> ∃k:Nat,k<=n/\kv= .int .i64 (k:Int)/\Aside0 (Mx w2 o bs (if j=i then rows' else cutTo wb c i j rows' k))/\Aside0 (Fd w2 g wb (fpoly wb) S)/\Aside0 (BS W w2 g S0)/\Aside0 (w2.heap[fb]?=some (.cells #[.pointer (some ⟨g,0,none⟩), .slice (some ⟨o,0,none⟩) n co] 146 (0,0)))/\Aside0 ((Kd.int .i64).R 3 w2 (fb+1) (fun _=>True) (.slice (some rad) L rc) row)) (fun kv _=>n - (intOf kv).toNat)
  case atStart=>exact ⟨0,Nat.zero_le _,rfl,HM0,HF,HB,HBX,HO⟩
  clear HM0 HF HB HBX HO hb1 hcj HM;obtain ⟨w2,rfl⟩: ∃w2,w2=wr:=⟨_,rfl⟩;obtain ⟨k,hk,rfl,HM,HF,HB,HBX,HO⟩:=hrel;by_cases hlt2:k<n
  ·obtain ⟨x,hx⟩: ∃x,rows'[k]?=some x:=⟨_,Zf (by have:=HLR.out.1;omega)⟩
   have hat:(if j=i then rows' else cutTo wb c i j rows' k)[k]?=some x:=by
    split
    ·exact hx
    ·exact cutTo_at wb c i j rows' k x hx
   obtain ⟨⟨bi,ci⟩,hbi⟩: ∃q,bs[k]?=some q:=⟨_,Zf (by have h1:=HM.out.len;have h2:=(Zk hat).1;omega)⟩;have hxl:=HLR.out.2 x (Zo hx);have hok:w2.cell? ⟨o,k,none⟩=some (.slice (some ⟨bi,0,none⟩) L ci):=by rw [HM.out.clz hbi hat,hxl]
   have k1:(0:Int)<=(k:Int):=by omega
   have k2:(k:Int)<(n:Int):=by omega
   by_cases hji:j=i
   ·have hjn:((j:Int) !=(i:Int))=false:=by simp [hji]
    have HM2:=Za (show Mx w2 o bs (if j=i then rows' else cutTo wb c i j rows' (k+1)) by have h:=HM.out;rw [Ya hji] at h|-;exact h);clear hx hat hbi hxl;go_wp2;go_roundw
    case rel=>exact ⟨k+1,by omega,by go_num,HM2,HF,HB,HBX,HO⟩
    case measure=>simp [intOf];omega
   ·have hjn:((j:Int) !=(i:Int))=true:=by simp;omega
    obtain ⟨y,hy⟩: ∃y,x[j]?=some y:=⟨_,Zf (by omega)⟩;obtain ⟨z,hz⟩: ∃z,x[i]?=some z:=⟨_,Zf (by omega)⟩;have hcy:w2.cell? ⟨bi,j,none⟩=some (.int .i64 y):=HM.out.cIz hbi hat hy;have hcz:w2.cell? ⟨bi,i,none⟩=some (.int .i64 z):=HM.out.cIz hbi hat hz;have hfi:=HM.out.froz_i hbi j;have hb0:w2.cell? ⟨fb,0,none⟩=some (.pointer (some ⟨g,0,none⟩)):=(abz HBX.out 0).trans rfl;obtain ⟨gcs,hgcs⟩:=Fd.cells HF.out;have hng:=HM.out.ne_g hgcs;have HNG:=Za hng;have HBI:=Za hbi;have HAT:=Za hat;have hbS:=HX.out _ (HSB.out _ _ _ hbi);have hblt:=HS.out _ hbS;have HBS:=Za hbS;have HFBI:=Za (show bi<fb by have:=HFB.out;omega)
    have HST:=Za (show (if j=i then rows' else cutTo wb c i j rows' k).set k (x.set j (Go.bits .xor .i64 y (gmul wb z c)))=(if j=i then rows' else cutTo wb c i j rows' (k+1)) by
     rw [Yb hji,Yb hji, <-cutTo_step wb c i j rows' k x hx];unfold cutRow
     rw [Zm,Zm,hy,hz];rfl)
    have HMU:=Za (csz.calls g S wb z c w2.drew HW.out HF.out.drew (fun q hq=>Zp (HS.out q hq) HB.out.size));have hfg:fb≠g:=by have:=HFB.out;have:=HGL.out;omega
    have HFG:=Za hfg;have HCI:=Za (show∀w3,BB w2.drew w3 g->(w3.cell? ⟨fb,0,none⟩=some (.pointer (some ⟨g,0,none⟩))/\w3.cell? ⟨bi,j,none⟩=some (.int .i64 y)/\w3.cell? ⟨bi,i,none⟩=some (.int .i64 z))/\w3.frozen? ⟨bi,j,none⟩=false from fun w3 h=>⟨⟨ciz h (a:=w2.drew) hb0 hfg,ciz h (a:=w2.drew) hcy (hng.2 _ _ _ hbi),ciz h (a:=w2.drew) hcz (hng.2 _ _ _ hbi)⟩,froz_bb h (a:=w2.drew) (p:=⟨bi,j,none⟩) (HM.out.lt_i hbi) hfi (hng.2 _ _ _ hbi)⟩);have HR3:=Za (show∀w3,BB w2 w3 g->(Kd.int .i64).R 3 w3 (fb+1) (fun _=>True) (.slice (some rad) L rc) row from fun w3 hb3=>Kd.aQz (Kd.cWz (Kd.dtz HO.out hgcs (by decide)) (fun q hq hlt=>hb3.block q hlt hq.2)) (fun _ _=>trivial));have i3:(i:Int)<(L:Int):=by omega
    clear hx hat hbi hxl hy hz hfi hgcs hng hbS hblt hfg
    go_wp2_with fail
    refine bPz (n:=15) (S:=fun w'=>w'.cell? ⟨fb,0,none⟩=some (.pointer (some ⟨g,0,none⟩))/\w'.cell? ⟨bi,j,none⟩=some (.int .i64 y)/\w'.cell? ⟨bi,i,none⟩=some (.int .i64 z)) (ds:= [14]) (bA 15 0) kr_ rfl rfl ⟨hb0,hcy,hcz⟩ (fun hHeld=> ?_);refine pu_ 0 33 1 ?_;refine pu_ 1 34 3 ?_;refine pu_ 2 35 7 ?_;refine pu_ 4 37 23 ?_;refine pu_ 6 39 87 ?_;refine pu_ 7 40 215 ?_;refine pu_ 8 41 471 ?_;refine pu_ 10 43 1495 ?_;refine tk_ 3 36 1503 hHeld ?_;refine tk_ 5 38 1535 hHeld ?_;refine tk_ 9 42 2047 hHeld ?_;refine one_ (i:=11) (N:=some 44) (bA 15 4095) rfl rfl kr_ (by decide) (fun K hK=> ?_);refine goes_ Tryz.func103 kr_ rfl #[.pointer (some ⟨g,0,none⟩), .int .i64 z, .int .i64 c] (by rfl) rfl rfl am_ ?_
    with_reducible refine (HMU.out).mono ?_
    rintro e w3 ⟨rfl,q1,q2⟩;refine ⟨_,rfl,?_⟩;obtain ⟨⟨r1,r2,r3⟩,r4⟩:=HCI.out w3 q2;have Q1:=Za q1;have Q3:=Za (show BB w2 w3 g from ⟨q2.os,q2.tape,q2.output,q2.size,q2.block⟩);clear q1 q2;refine hK.out _ _ ⟨r1,r2,r3⟩ (fun hHeld=> ?_);clear hK K;refine norm_ (a':= ?_) ?_ ?_;rotate_left
    ·show Act.put _ (some 44) _=_;simp only [Act.put,Zg,Zh,Zi,i64_w,i32_w];rfl
    refine pu_ 12 45 8191 ?_;refine pu_ 13 46 16383 ?_;refine last_ (i:=14) (N:=none) (bA 15 32767) rfl rfl kr_ (by decide) (fun K hK=> ?_);refine skip_ (w1:= ?_) (by rfl) rfl ?_ ?_;rotate_left
    ·go_simp;rfl
    refine hK.out _ _ ?_;clear hK K;refine done_ kr_ ?_;have HM2:=Za ((HM.out.bb HNG.out Q3.out).set (j:=j) HBI.out HAT.out (Go.bits .xor .i64 y (gmul wb z c)));rw [HST.out] at HM2;have HF2:=Za (Q1.out.set (q:=⟨bi,j,none⟩) HBS.out (.int .i64 (Go.bits .xor .i64 y (gmul wb z c))));have HB2:=Za ((HB.out.trans (BS.of_bb Q3.out)).set (p:=⟨bi,j,none⟩) (.inl (HSB.out _ _ _ HBI.out)) (.int .i64 (Go.bits .xor .i64 y (gmul wb z c))));have HBX2:=Za (byz ((Q3.out.block fb (a1z HBX.out) HFG.out).trans HBX.out) (show fb≠(⟨bi,j,none⟩:Addr).block from fun e=>by have:=HFBI.out;simp only at e;omega) (.int .i64 (Go.bits .xor .i64 y (gmul wb z c))));have HO3:=Za (Kd.aQz (Kd.c2z (w1:=w3.setCell ⟨bi,j,none⟩ (.int .i64 (Go.bits .xor .i64 y (gmul wb z c)))) (Kd.b9z (HR3.out w3 Q3.out)) (fun q hq=>Below.heap_setCell w3 ⟨bi,j,none⟩ _ q (fun e=>by have h1:=hq.2.1;have h2:=HFBI.out;simp only at e;omega))) (ok':=fun _=>True) (fun _ _=>trivial))
    go_wp2;go_roundw
    case rel=>exact ⟨k+1,by omega,by go_num,HM2,HF2,HB2,HBX2,HO3⟩
    case measure=>simp [intOf];omega
  ·obtain rfl:k=n:=by omega
   have HME:=Za (show Mx w2 o bs (cutCol wb c i j rows') by
    have h:=HM.out;unfold cutCol;by_cases hji:j=i
    ·rw [Ya hji] at h|-;exact h
    ·rw [Yb hji] at h|-;rw [<-HLR.out.1,cutTo_full] at h;exact h)
   have HLE:=Za (show (cutCol wb c i j rows').length=k/\ ∀r,r∈cutCol wb c i j rows'->r.length=L from ⟨(ezz HLR.out.2).2.trans HLR.out.1,(ezz HLR.out.2).1⟩);go_wp2;go_roundw
   case rel=>exact ⟨j+1,_,by omega,by go_num,HR2,HLE,HME,HF,HB,HBX,HO⟩
   case measure=>simp [intOf];omega
 ·obtain rfl:j=L:=by omega
  have HE:=Za (show Mx wq o bs R0 by
   have h:=HR.out;rw [List.drop_of_length_le (by rw [HRL.out];exact Zv _),cutF] at h
   rw [<-h];exact HM.out)
  go_wp2
  go_end0
  exact ⟨rfl,HE.out,HF.out,HB.out⟩
theorem S_join2 {wq w2 : World} {g B e t gt : Nat} {gcs : Array Value} {Own : Nat -> Prop} {u uv : Value} {xs : List (List Int)} {R : List Int} (HO : Kd.S (dM e .i64) t wq B Own u xs) (hlt : ∀ q, Own q -> q < wq.heap.size) (hg : wq.heap[g]? = some (.cells gcs gt (0, 0))) (ht : ∀ q, q ∈ t :: (dM e .i64).E -> q ≠ gt) (hb : BB wq w2 g) (hR : (Kd.int .i64).R e w2 wq.heap.size (fun _ => True) uv R) (hB : B <= wq.heap.size) :
  Kd.S (dM e .i64) t w2 B (fun k'=>(Own k'\/some k'=uv.ownBlock\/w2.heap.size<=k')/\ ¬some k'=uv.ownBlock) u xs/\(dM e .i64).M w2 B (fun k'=>some k'=uv.ownBlock) R [uv] /\(∀k',some k'=uv.ownBlock->(Own k'\/some k'=uv.ownBlock\/w2.heap.size<=k')/\some k'≠u.ownBlock):=by
 have hub: ∀q,some q=uv.ownBlock->wq.heap.size<=q:=fun q e=>Kd.cbz hR q e.symm
 refine ⟨Kd.cBz (Kd.S_move (Kd.bLz (Kd.dKz HO hg ht)) (fun q hq=>hb.block q hq.2.2.1 hq.1.2)) (fun q hq=>⟨.inl hq.1.1,fun e=>by have:=hub q e;have:=hq.2.2.1;omega⟩),⟨_,rfl,Kd.bKz (Kd.b1z rfl hR) hB⟩,fun q e=>⟨.inr (.inl e),fun e2=> ?_⟩⟩;have h1:=hub q e;have h2:=Kd.R_lt (Kd.S_R HO) q e2.symm;omega
theorem Fd.joined {w2 w4 : World} {g : Nat} {wb p : Int} {S Own : Nat -> Prop} {u uv : Value} (h : Fd w2 g wb p (fun q => (S q \/ Own q) \/ some q = uv.ownBlock)) (hu : ∀ q, u.ownBlock = some q -> Own q) (hg : w2.grownBy w4 u.ownBlock) :
  Fd w4 g wb p (fun q=>S q\/((Own q\/some q=uv.ownBlock\/w2.heap.size<=q)/\q<w4.heap.size)):=by
 refine (Fd.grow h (fun q e=> .inl (.inr (hu q e))) hg).thin (fun q hq hs=> ?_);rcases hs with hs|⟨hs|hs|hs, -⟩
 ·exact .inl (.inl (.inl hs))
 ·exact .inl (.inl (.inr hs))
 ·exact .inl (.inr hs)
 ·exact .inr hs
def lastU (k:Nat):List Int:=(List.replicate k 0).set (k - 1) 1
def extM (wb:Int) (k m:Nat):List (List Int):=madeF (fun (i j:Nat)=>gpow wb (i:Int) (j:Int)) (k+m - 1) k++ [lastU k]
theorem Extended.calls (g : Nat) (wb : Int) (S : Nat -> Prop) (k0 m0 : Nat) (W : World) (hw : wb = 8 \/ wb = 16) (hF : Fd W g wb (fpoly wb) S) (hS : ∀ k, S k -> k < W.heap.size) (h1 : 1 <= k0) (h2 : 1 <= m0) (h3 : k0 <= 8) (h4 : m0 <= 4) :
  Calls Tryz.prog 112 #[.pointer (some ⟨g,0,none⟩), .int .i64 (k0:Int), .int .i64 (m0:Int)] W fun e w'=> ∃v, ∃Own:Nat->Prop,e= .returned (.tuple #[v, .int .i64 0])/\Kd.S (dM 3 .i64) 57 w' W.heap.size Own v (extM wb k0 m0)/\Fd w' g wb (fpoly wb) (fun q=>S q\/Own q)/\(∀q,Own q->q<w'.heap.size)/\BB W w' g:=by
 have HW:=Za hw;have HS:=Za hS;have HF:=Za (show Fd W g wb (fpoly wb) (fun q=>S q\/(fun _=>False) q) from hF.thin (fun q _ hs=>hs.elim id (fun e=>e.elim)));have e1: ¬(k0:Int)<1:=by omega
 have e2: ¬(m0:Int)<1:=by omega
 have e3: ¬(20:Int)<=(k0:Int):=by omega
 have e4: ¬(20:Int)<=(m0:Int):=by omega
 have e5:wrap64 ((k0:Int)+(m0:Int))=(k0:Int)+(m0:Int):=by unfold wrap64;omega
 have e6: ¬(20:Int)<(k0:Int)+(m0:Int):=by omega
 obtain ⟨rows,hrows⟩: ∃rows,k0+m0 - 1=rows:=⟨_,rfl⟩;have e7:wrap64 ((k0:Int)+(m0:Int) - 1)=(rows:Int):=by unfold wrap64;omega
 have e9:(k0:Int)+(m0:Int) - 1=(rows:Int):=by omega
 have hr:rows<=100:=by omega
 obtain ⟨tf,htf⟩: ∃tf:Nat->Nat->Int,(fun (i j:Nat)=>gpow wb (i:Int) (j:Int))=tf:=⟨_,rfl⟩;have HX:=Za (show extM wb k0 m0=madeF tf rows k0++ [lastU k0] by unfold extM;rw [htf,hrows]);generalize extM wb k0 m0=res at HX|-
 have HT:=Za (show∀(i j:Nat) (S':Nat->Prop) (w:World),Fd w g wb (fpoly wb) S'->(∀k,S' k->k<w.heap.size)->j<=100->Calls Tryz.prog 122 #[.pointer (some ⟨g,0,none⟩), .int .i64 (i:Int), .int .i64 (j:Int)] w fun e w'=>e= .returned (.int .i64 (tf i j))/\Fd w' g wb (fpoly wb) S'/\BB w w' g by
  intro i j S' w h1 h2 h3;subst htf
  exact gf_Pow.calls g S' wb (i:Int) j w (by omega) hw h1 h2)
 clear hw hF hS htf hrows;go_enter Tryz.func112,Tryz.ntmps112;go_wp2;have E1:=Za h1;have E3:=Za h3;clear e1 e2 e3 e4 e5 e6 e7 e9 h2 h4
 go_loopw [8,41] (fun v i wr=> ∃(k:Nat) (Own:Nat->Prop),k<=rows/\i= .int .i64 (k:Int)/\Aside0 (Kd.S (dM 3 .i64) 57 wr W.heap.size Own v (madeF tf k k0))/\Aside0 (Fd wr g wb (fpoly wb) (fun q=>S q\/Own q))/\Aside0 (∀q,Own q->q<wr.heap.size)/\Aside0 (BB W wr g)) (fun _ i _=>rows - (intOf i).toNat)
 case atStart=>exact ⟨0,fun _=>False,Nat.zero_le _,rfl,⟨Kd.S_nil _ _ _ _ _⟩,HF,⟨fun _ h=>h.elim⟩,⟨BB.refl _ _⟩⟩
 clear HF;obtain ⟨wq,rfl⟩: ∃wq,wq=wr:=⟨_,rfl⟩;obtain ⟨k,Own,hk,rfl,HO,HF,HOW,HBB⟩:=hrel;by_cases hlt:k<rows
 ·have HF2:=Za (show Fd wq g wb (fpoly wb) (fun q=>(S q\/Own q)\/some q=(Value.slice none 0 0).ownBlock) from HF.out.thin (fun q _ hs=>hs.elim id (fun e=>by simp [Value.ownBlock] at e)));go_wp2
  go_loopw [10,45] (fun u j w2=> ∃n:Nat,n<=k0/\j= .int .i64 (n:Int)/\Aside0 ((Kd.int .i64).R 3 w2 wq.heap.size (fun _=>True) u ((List.range n).map (tf k)))/\Aside0 (Fd w2 g wb (fpoly wb) (fun q=>(S q\/Own q)\/some q=u.ownBlock))/\Aside0 (BB wq w2 g)) (fun _ j _=>k0 - (intOf j).toNat)
  case atStart=>exact ⟨0,Nat.zero_le _,rfl,⟨Kd.R_nil _ _ _ _ _⟩,HF2,⟨BB.refl _ _⟩⟩
  clear HF2;obtain ⟨w2,rfl⟩: ∃w2,w2=wr:=⟨_,rfl⟩;obtain ⟨n,hn,rfl,HR,HF2,HB2⟩:=hrel;by_cases hlt2:n<k0
  ·have hSS : ∀ q, ((S q \/ Own q) \/ some q = u10.ownBlock) -> q < w2.heap.size := by
    have s1:=HB2.out.size;have s2:=HBB.out.size;rintro q ((h|h)|h)
    ·have:=HS.out q h;omega
    ·have:=HOW.out q h;omega
    ·exact Kd.R_lt HR.out q h.symm
   have HTC:=Za (HT.out k n _ w2 HF2.out hSS (by have:=E3.out;omega));have HSZ:=Za (show wq.heap.size<=w2.heap.size from HB2.out.size);obtain ⟨gcs,hgcs⟩:=Fd.cells HF2.out;have HR3:=Za (show∀w3,BB w2 w3 g->(Kd.int .i64).R 3 w3 wq.heap.size (fun _=>True) u10 ((List.range n).map (tf k)) from fun w3 hb3=>Kd.aQz (Kd.cWz (Kd.dtz HR.out hgcs (by decide)) (fun q hq hlt=>hb3.block q hlt hq.2)) (fun _ _=>trivial));have HLL:=Za (show ((List.range n).map (tf k)).length<=100 by have:=E3.out;simp;omega);have HRS:=Za (dOz (tf k) n);generalize (List.range n).map (tf k)=pre at HR HR3 HLL HRS;generalize tf k n=z at HTC HRS;clear hSS hgcs
   go_wp2_with fail
   refine HTC.out.mono ?_;rintro e w3 ⟨rfl,q1,q2⟩;have HR4:=Za (HR3.out w3 q2);have HF3:=Za q1;have HB3:=Za (HB2.out.trans q2);have HZ3:=Za (Zt HSZ.out q2.size);clear q1 q2 HTC HR3
   go_wp2_with ((with_reducible refine anz (b:= .append) (xs:= #[.tmp 48, .tmp 53]) rfl ?_);go_must (at_builtin;refine Kd.bnz (Kd.int .i64) (w0:=w3) wq.heap.size rfl (.tmp 48) (.tmp 53) 57 3 (.int .i64 0) 8 rfl Tryz.underlying57 kr_ rfl (by decide) (by decide) _ _ z [.int .i64 z] (fun _=>True) (fun _=>False) rfl rfl rfl (fun _ h=>h.elim) (fun _ _=>trivial) HR4.out (Zw _ _) HZ3.out ?aL ?_;(case aL=>have:=HLL.out;omega));intro v2 w4 ho2 hb2 hg2 hat2;have HO2:=Za ho2;have HB4:=Za hb2;have HG2:=Za (show w3.grownBy w4 u10.ownBlock from hg2);have HA2:=Za (show v2.ownBlock=u10.ownBlock\/ ∃b,v2.ownBlock=some b/\w3.heap.size<=b from hat2);clear ho2 hb2 hg2 hat2)
   go_roundw
   case rel=>exact ⟨n+1,by omega,by go_num,⟨by rw [HRS.out];exact HO2.out⟩,⟨Fd.appended HF3.out HG2.out HA2.out⟩,⟨HB3.out.os▸HB4.out.os,HB3.out.tape▸HB4.out.tape,HB3.out.output▸HB4.out.output,Zt HB3.out.size HB4.out.size,fun i hi hg=>(HB4.out.block i hi).trans (HB3.out.block i hi hg)⟩⟩
   case measure=>simp [intOf];omega
  ·obtain rfl:n=k0:=by omega
   obtain ⟨gcs,hgcs⟩:=Fd.cells HF.out;have hj:=S_join2 HO.out HOW.out hgcs (by decide) HB2.out HR.out HBB.out.size;have HLZ:=Za (show (madeF tf k n).length<=1000 by simp [madeF];omega);obtain ⟨va,vc,rfl⟩:=Kd.bcz HR.out;have HMS:=Za (eHz tf k n)
   generalize ((List.range n).map (tf k)).length=nn at *
   generalize (List.range n).map (tf k)=R at hj HMS;have HS1:=Za hj.1;have HM1:=Za hj.2.1;have HOK:=Za hj.2.2;have HSW:=Za (show W.heap.size<=w2.heap.size from Zt HBB.out.size HB2.out.size);have HF5:=Za HF2.out;have HUO:=Za HO.out.choose_spec.1;clear hj hgcs HF2 HR
   go_wp2_with ((with_reducible refine anz (b:= .append) (xs:= #[.tmp 56, .tmp 58]) rfl ?_);go_must (at_builtin;refine Kd.bRz (dM 3 .i64) (w0:=w2) W.heap.size rfl (.tmp 56) (.tmp 58) 69 57 (.slice none 0 0) 24 rfl Tryz.underlying69 kr_ rfl (by decide) (by decide) _ _ R [.slice va nn vc] _ _ rfl rfl HM1.out HOK.out (fun _ h=> .inr (.inr h)) HS1.out (Zw _ _) HSW.out ?aL ?_;(case aL=>have:=HLZ.out;omega));intro v2 w4 ho2 hb2 hg2 hat2;have HO2:=Za ho2;have HB4:=Za hb2;have HG2:=Za (show w2.grownBy w4 u8.ownBlock from hg2);have HA2:=Za (show v2.ownBlock=u8.ownBlock\/ ∃b,v2.ownBlock=some b/\w2.heap.size<=b from hat2);clear ho2 hb2 hg2 hat2)
   go_roundw
   case rel=>exact ⟨k+1,_,by omega,by go_num,⟨by rw [HMS.out];exact Kd.cBz (Kd.bLz HO2.out) (fun q hq=>⟨hq.1,hq.2.2.1⟩)⟩,⟨Fd.joined HF5.out HUO.out HG2.out⟩,⟨fun q hq=>hq.2⟩,⟨⟨HB4.out.os.trans (HB2.out.os.trans HBB.out.os),HB4.out.tape.trans (HB2.out.tape.trans HBB.out.tape),HB4.out.output.trans (HB2.out.output.trans HBB.out.output),Zt HSW.out HB4.out.size,fun i hi hg=>(HB4.out.block i hi).trans ((HB2.out.block i (Zp hi HBB.out.size) hg).trans (HBB.out.block i hi hg))⟩⟩⟩
   case measure=>simp [intOf];omega
 ·obtain rfl:k=rows:=by omega
  have HZ:=Za HO.out;have hmk:=esz k0 (by omega);have e8:wrap64 ((k0:Int) - 1)=((k0 - 1:Nat):Int):=by unfold wrap64;omega
  have i1:(0:Int)<=((k0 - 1:Nat):Int):=by omega
  have i2:((k0 - 1:Nat):Int)<(k0:Int):=by omega
  have hnb:(wq.alloc (.cells (nums .i64 (List.replicate k0 0)).toArray 3)).heap[wq.heap.size]?=some (.cells (nums .i64 (List.replicate k0 0)).toArray 3 (0,0)):=heap_alloc_new _ _;have hcb:(wq.alloc (.cells (nums .i64 (List.replicate k0 0)).toArray 3)).cell? ⟨wq.heap.size,k0 - 1,none⟩=some (.int .i64 0):=(abz hnb _).trans (dNz .i64 _ _ 0 (by rw [List.getElem?_replicate];simp;omega));have hfb:=bmz hnb (k0 - 1);obtain ⟨w5,hw5⟩: ∃w5,wq.alloc (.cells ((nums .i64 (List.replicate k0 0)).set (k0 - 1) (.int .i64 1)).toArray 3)=w5:=⟨_,rfl⟩
  have hn0:w5.heap[wq.heap.size]?=some (.cells (nums .i64 (lastU k0)).toArray 3 (0,0)):=by
   rw [<-hw5,heap_alloc_new];simp [lastU,nums,List.map_set]
  have hB5:Below wq.heap.size wq w5:=by rw [<-hw5];exact amz (Zw _ _) _
  have hlen:(lastU k0).length=k0:=by simp [lastU]
  have hR5:(Kd.int .i64).R 3 w5 wq.heap.size (fun _=>True) (.slice (some ⟨wq.heap.size,0,none⟩) k0 k0) (lastU k0):=
   cVz ⟨by rw [nums_length,Nat.mul_one], .inr ⟨_,k0,_,by rw [hlen],Zv _,hn0,by rw [hlen];exact Zv _,by unfold maxLen;omega,by simp [nums_length,hlen],by rw [hlen];simp;rw [List.take_of_length_le (by rw [nums_length,hlen];exact Zv _)]⟩⟩
  obtain ⟨gcs,hgcs⟩:=Fd.cells HF.out;have hj:=S_join2 HO.out HOW.out hgcs (by decide) (BB.of_below hB5 g) hR5 HBB.out.size;have HLZ:=Za (show (madeF tf k k0).length<=1000 by simp [madeF];omega);have HS1:=Za hj.1;have HM1:=Za hj.2.1;have HOK:=Za hj.2.2;have HSW:=Za (show W.heap.size<=w5.heap.size from Zt HBB.out.size hB5.size);have HB5:=Za hB5;have HF5:=Za (show Fd w5 g wb (fpoly wb) (fun q=>(S q\/Own q)\/some q=(Value.slice (some ⟨wq.heap.size,0,none⟩) k0 k0).ownBlock) from ((HF.out.more).below hB5).thin (fun q _ hs=>hs.elim .inl (fun e=> .inr (by simp [Value.ownBlock] at e;omega))));have HUO:=Za HO.out.choose_spec.1;clear hnb hj hgcs hR5 hn0 hlen hB5 HZ
  go_wp2_with ((with_reducible refine anz (b:= .append) (xs:= #[.tmp 67, .tmp 69]) rfl ?_);go_must (at_builtin;refine Kd.bRz (dM 3 .i64) (w0:=w5) W.heap.size rfl (.tmp 67) (.tmp 69) 69 57 (.slice none 0 0) 24 rfl Tryz.underlying69 kr_ rfl (by decide) (by decide) _ _ (lastU k0) [.slice (some ⟨wq.heap.size,0,none⟩) k0 k0] _ _ rfl rfl HM1.out HOK.out (fun _ h=> .inr (.inr h)) HS1.out (Zw _ _) HSW.out ?aL ?_;(case aL=>have:=HLZ.out;omega));intro v2 w4 ho2 hb2 hg2 hat2;have HO2:=Za ho2;have HB4:=Za hb2;have HG2:=Za (show w5.grownBy w4 u8.ownBlock from hg2);have HA2:=Za (show v2.ownBlock=u8.ownBlock\/ ∃b,v2.ownBlock=some b/\w5.heap.size<=b from hat2);clear ho2 hb2 hg2 hat2)
  go_ret2;refine ⟨_,_,rfl,by rw [HX.out];exact Kd.cBz (Kd.bLz HO2.out) (fun q hq=>⟨hq.1,hq.2.2.1⟩),Fd.joined HF5.out HUO.out HG2.out,fun q hq=>hq.2,⟨HB4.out.os.trans (HB5.out.os.trans HBB.out.os),HB4.out.tape.trans (HB5.out.tape.trans HBB.out.tape),HB4.out.output.trans (HB5.out.output.trans HBB.out.output),Zt HSW.out HB4.out.size,fun i hi hg=>(HB4.out.block i hi).trans ((HB5.out.block i (Zp hi HBB.out.size)).trans (HBB.out.block i hi hg))⟩⟩
def sclRow (wb c:Int) (j:Nat) (row:List Int):List Int:=row.set j (gmul wb (row.getD j 0) c)
def sclTo (wb c:Int) (from_ j:Nat) (rows:List (List Int)) (i:Nat):List (List Int):=rows.take from_++(((rows.drop from_).take i).map (sclRow wb c j)++(rows.drop from_).drop i)
theorem sclTo_zero (wb c:Int) (from_ j:Nat) (rows:List (List Int)):sclTo wb c from_ j rows 0=rows:=by simp [sclTo]
theorem sclTo_at (wb c:Int) (from_ j:Nat) (rows:List (List Int)) (i:Nat) (row:List Int) (hf:from_<=rows.length) (h:rows[from_+i]?=some row):(sclTo wb c from_ j rows i)[from_+i]?=some row:=by
 have hi:=(Zk h).1;unfold sclTo;rw [List.getElem?_append_right (by simp;omega),List.length_take,Nat.min_eq_left hf,Nat.add_sub_cancel_left,List.getElem?_append_right (by simp;omega)];simp only [List.length_map,List.length_take,List.length_drop,List.getElem?_drop];rw [show from_+(i+(i - min i (rows.length - from_)))=from_+i by omega];exact h
theorem sclTo_step (wb c:Int) (from_ j:Nat) (rows:List (List Int)) (i:Nat) (row:List Int) (hf:from_<=rows.length) (h:rows[from_+i]?=some row):(sclTo wb c from_ j rows i).set (from_+i) (sclRow wb c j row)=sclTo wb c from_ j rows (i+1):=by
 have hi:=(Zk h).1;have h2:(rows.drop from_)[i]?=some row:=by rw [List.getElem?_drop];exact h
 obtain ⟨h3,h4⟩:=Zk h2;unfold sclTo;rw [List.set_append_right _ _ (by simp;omega),List.length_take,Nat.min_eq_left hf,Nat.add_sub_cancel_left,List.set_append_right _ _ (by simp;omega),List.length_map,List.length_take,List.length_drop,show i - min i (rows.length - from_)=0 by omega,List.drop_eq_getElem_cons h3,Zh,List.take_add_one,h2,List.map_append,List.append_assoc];rfl
theorem eIz (wb c:Int) (from_ j:Nat) (rows:List (List Int)) (i L:Nat) (h: ∀r,r∈rows->r.length=L): ∀r,r∈sclTo wb c from_ j rows i->r.length=L:=by
 intro r hr;unfold sclTo at hr;rcases List.mem_append.1 hr with hr|hr
 ·exact h r (List.mem_of_mem_take hr)
 ·rcases List.mem_append.1 hr with hr|hr
  ·obtain ⟨q,hq,rfl⟩:=List.mem_map.1 hr;simp only [sclRow,List.length_set];exact h q (List.mem_of_mem_drop (List.mem_of_mem_take hq))
  ·exact h r (List.mem_of_mem_drop (List.mem_of_mem_drop hr))
def sclF (wb c:Int) (from_ j:Nat) (rows:List (List Int)):List (List Int):=sclTo wb c from_ j rows (rows.length - from_)
theorem scale.calls (g o : Nat) (wb : Int) (S0 S : Nat -> Prop) (n co L from_ j : Nat) (c : Int) (bs : List (Nat × Nat)) (rows : List (List Int)) (W : World) (hw : wb = 8 \/ wb = 16) (hF : Fd W g wb (fpoly wb) S) (hx : ∀ k, S0 k -> S k) (hS : ∀ k, S k -> k < W.heap.size)
  (hM:Mx W o bs rows) (hSb: ∀(i b c:Nat),bs[i]?=some (b,c)->S0 b) (hn:rows.length=n) (hco:n<=co) (hnn:n<=100) (hL: ∀r,r∈rows->r.length=L) (hLL:L<=100) (hj:j<L) (hf:from_<=n) (hfn:from_<n):
  Calls Tryz.prog 115 #[.agg #[.pointer (some ⟨g,0,none⟩), .slice (some ⟨o,0,none⟩) n co], .int .i64 (from_:Int), .int .i64 (j:Int), .int .i64 c] W fun e w'=>e= .returned (.tuple #[])/\Mx w' o bs (sclF wb c from_ j rows)/\Fd w' g wb (fpoly wb) S/\BS W w' g S0:=by
 have HW:=Za hw;have HF:=Za (hF.alloc (.cells #[.pointer (some ⟨g,0,none⟩), .slice (some ⟨o,0,none⟩) n co] 146));have HX:=Za hx;have HS:=Za hS;have HM:=Za (show Mx (W.alloc (.cells #[.pointer (some ⟨g,0,none⟩), .slice (some ⟨o,0,none⟩) n co] 146)) o bs (sclTo wb c from_ j rows 0) by rw [sclTo_zero];exact hM.alloc _);have HSB:=Za hSb;have HL:=Za hL;have HN:=Za hn;have hbx:(W.alloc (.cells #[.pointer (some ⟨g,0,none⟩), .slice (some ⟨o,0,none⟩) n co] 146)).heap[W.heap.size]?=some (.cells #[.pointer (some ⟨g,0,none⟩), .slice (some ⟨o,0,none⟩) n co] 146 (0,0)):=heap_alloc_new _ _;have HBX:=Za hbx;have HB:=Za (show BS W (W.alloc (.cells #[.pointer (some ⟨g,0,none⟩), .slice (some ⟨o,0,none⟩) n co] 146)) g S0 from BS.alloc (BS.refl _ _ _) _);have HGL:=Za hF.lt;have hb1:(W.alloc (.cells #[.pointer (some ⟨g,0,none⟩), .slice (some ⟨o,0,none⟩) n co] 146)).cell? ⟨W.heap.size,1,none⟩=some (.slice (some ⟨o,0,none⟩) n co):=(abz hbx 1).trans rfl
 have f1:(0:Int)<=(from_:Int):=by omega
 have f2:(from_:Int)<=(n:Int):=by omega
 have f3: ¬co=from_:=by omega
 have f3': ¬from_=co:=by omega
 obtain ⟨nl,hnl⟩: ∃nl,n - from_=nl:=⟨_,rfl⟩;have HNL:=Za hnl;have f5:from_+nl=n:=by omega
 have HF5:=Za f5;have hnl100:nl<=100:=by omega
 clear f5;have j1:(0:Int)<=(j:Int):=by omega
 have j2:(j:Int)<(L:Int):=by omega
 clear hw hF hx hS hM hSb hL hn hbx;go_enter Tryz.func115,Tryz.ntmps115;go_wp2;generalize W.alloc (.cells #[.pointer (some ⟨g,0,none⟩), .slice (some ⟨o,0,none⟩) n co] 146)=w1 at HF HM HBX HB hb1|-;obtain ⟨fb,hfb⟩: ∃fb,fb=W.heap.size:=⟨_,rfl⟩;have HFB:=Za hfb;rw [<-hfb] at HBX hb1|-;clear hfb hnl hb1
 go_loopw [15] (fun i wr=> ∃k:Nat,k<=nl/\i= .int .i64 (k:Int)/\Aside0 (Mx wr o bs (sclTo wb c from_ j rows k))/\Aside0 (Fd wr g wb (fpoly wb) S)/\Aside0 (BS W wr g S0)/\Aside0 (wr.heap[fb]?=some (.cells #[.pointer (some ⟨g,0,none⟩), .slice (some ⟨o,0,none⟩) n co] 146 (0,0)))) (fun i _=>nl - (intOf i).toNat)
 case atStart=>exact ⟨0,Nat.zero_le _,rfl,HM,HF,HB,HBX⟩
 clear HM HF HB HBX;obtain ⟨k,hk,rfl,HM,HF,HB,HBX⟩:=hrel;by_cases hlt:k<nl
 ·obtain ⟨row,hrow⟩: ∃r,rows[from_+k]?=some r:=⟨_,Zf (by have:=HN.out;have:=HF5.out;omega)⟩;obtain ⟨⟨bi,ci⟩,hbi⟩: ∃q,bs[from_+k]?=some q:=⟨_,Zf (by have h1:=HM.out.len;have h2:=(Zk (sclTo_at wb c from_ j rows k row (by rw [HN.out];omega) hrow)).1;omega)⟩;have hat:=sclTo_at wb c from_ j rows k row (by rw [HN.out];omega) hrow;have hrl:=HL.out row (Zo hrow);obtain ⟨x,hx⟩: ∃x,row[j]?=some x:=⟨_,Zf (by omega)⟩;have hco1:wr.cell? ⟨o,from_+k,none⟩=some (.slice (some ⟨bi,0,none⟩) L ci):=by rw [HM.out.clz hbi hat,hrl]
  have hci:wr.cell? ⟨bi,j,none⟩=some (.int .i64 x):=HM.out.cIz hbi hat hx;have hfi:=HM.out.froz_i hbi j;have hb0:wr.cell? ⟨fb,0,none⟩=some (.pointer (some ⟨g,0,none⟩)):=(abz HBX.out 0).trans rfl;obtain ⟨gcs,hgcs⟩:=Fd.cells HF.out;have hng:=HM.out.ne_g hgcs;have HNG:=Za hng;have HBI:=Za hbi;have HAT:=Za hat
  have HST:=Za (show (sclTo wb c from_ j rows k).set (from_+k) (row.set j (gmul wb x c))=sclTo wb c from_ j rows (k+1) by
   rw [<-sclTo_step wb c from_ j rows k row (by rw [HN.out];omega) hrow];unfold sclRow
   rw [Zm,hx];rfl)
  have HFBI:=Za (show fb≠bi from fun e=>by
   have h1:=HX.out _ (HSB.out _ _ _ hbi);have h2:=HS.out _ h1;have h3:=HFB.out
   omega)
  have HMU:=Za (csz.calls g S wb x c wr.drew HW.out HF.out.drew (fun k hk=>Zp (HS.out k hk) HB.out.size));have HCI:=Za (show∀w3,BB wr.drew w3 g->w3.cell? ⟨bi,j,none⟩=some (.int .i64 x)/\w3.frozen? ⟨bi,j,none⟩=false from fun w3 h=>⟨ciz h (a:=wr.drew) hci (hng.2 _ _ _ hbi),froz_bb h (a:=wr.drew) (p:=⟨bi,j,none⟩) (HM.out.lt_i hbi) hfi (hng.2 _ _ _ hbi)⟩);have k1:(0:Int)<=(k:Int):=by omega
  have k2:(k:Int)<(nl:Int):=by omega
  clear hrow hbi hat hrl hx hfi hgcs hng
  go_wp2_with fail
  refine bPz (n:=12) (S:=fun w'=>w'.cell? ⟨fb,0,none⟩=some (.pointer (some ⟨g,0,none⟩))/\w'.cell? ⟨bi,j,none⟩=some (.int .i64 x)) (ds:= [9,11]) (bA 12 0) kr_ rfl rfl ⟨hb0,hci⟩ (fun hHeld=> ?_);refine pu_ 0 19 1 ?_;refine pu_ 1 20 3 ?_;refine pu_ 2 21 7 ?_;refine pu_ 4 23 23 ?_;refine pu_ 5 24 55 ?_;refine pu_ 6 25 119 ?_;refine pu_ 8 27 375 ?_;refine tk_ 3 22 383 hHeld ?_;refine tk_ 7 26 511 hHeld ?_;refine last_ (i:=9) (N:=some 28) (bA 12 1023) rfl rfl kr_ (by decide) (fun K hK=> ?_);refine goes_ Tryz.func103 kr_ rfl #[.pointer (some ⟨g,0,none⟩), .int .i64 x, .int .i64 c] (by rfl) rfl rfl am_ ?_
  with_reducible refine (HMU.out).mono ?_
  rintro e w3 ⟨rfl,q1,q2⟩;refine ⟨_,rfl,?_⟩;obtain ⟨r1,r2⟩:=HCI.out w3 q2;have Q1:=Za q1;have Q3:=Za (show BB wr w3 g from ⟨q2.os,q2.tape,q2.output,q2.size,q2.block⟩);clear q1 q2;refine hK.out _ _ ?_;clear hK K;refine norm_ (a':= ?_) ?_ ?_;rotate_left
  ·show Act.put _ (some 28) _=_;simp only [Act.put,Zg,Zh,Zi,i64_w,i32_w];rfl
  refine pu_ 10 29 2047 ?_;refine last_ (i:=11) (N:=none) (bA 12 4095) rfl rfl kr_ (by decide) (fun K hK=> ?_);refine skip_ (w1:= ?_) (by rfl) rfl ?_ ?_;rotate_left
  ·go_simp;rfl
  refine hK.out _ _ ?_;clear hK K;refine done_ kr_ ?_;have HM2:=Za ((HM.out.bb HNG.out Q3.out).set (j:=j) HBI.out HAT.out (gmul wb x c));rw [HST.out] at HM2;have HF2:=Za (Q1.out.set (q:=⟨bi,j,none⟩) (HX.out _ (HSB.out _ _ _ HBI.out)) (.int .i64 (gmul wb x c)));have HB2:=Za ((HB.out.trans (BS.of_bb Q3.out)).set (p:=⟨bi,j,none⟩) (.inl (HSB.out _ _ _ HBI.out)) (.int .i64 (gmul wb x c)));have HBX2:=Za (byz ((Q3.out.block fb (a1z HBX.out) (by have:=HFB.out;have:=HGL.out;omega)).trans HBX.out) (show fb≠(⟨bi,j,none⟩:Addr).block from HFBI.out) (.int .i64 (gmul wb x c)));go_wp2;go_roundw
  case rel=>exact ⟨k+1,by omega,by go_num,HM2,HF2,HB2,HBX2⟩
  case measure=>have:=HF5.out;simp [intOf];omega
 ·obtain rfl:k=nl:=by omega
  have HE:=Za (show Mx wr o bs (sclF wb c from_ j rows) by unfold sclF;rw [HN.out,HNL.out];exact HM.out);go_wp2
  go_end0
  exact ⟨rfl,HE.out,HF.out,HB.out⟩
def swpRow (i j:Nat) (x:List Int):List Int:=(x.set i (x.getD j 0)).set j (x.getD i 0)
def swpTo (i j:Nat) (rows:List (List Int)) (k:Nat):List (List Int):=(rows.take k).map (swpRow i j)++rows.drop k
def pivJ (i:Nat):List Int->Nat->Option Nat
 | [],_=>none
 |c::cs,j=>if j<i\/c=0 then pivJ i cs (j+1) else some j
def swpF (i:Nat) (rows:List (List Int)):List (List Int):=match pivJ i (rows.getD i []) 0 with
 |none=>rows
 |some j=>rows.map (swpRow i j)
def stepF (wb:Int) (i:Nat) (rows:List (List Int)):List (List Int):=
 let r1:=swpF i rows
 let r2:=sclF wb (ginv wb ((r1.getD i []).getD i 0)) 0 i r1
 cutF wb i (r2.getD i []) 0 r2
theorem swpTo_zero (i j:Nat) (rows:List (List Int)):swpTo i j rows 0=rows:=by simp [swpTo]
theorem swpTo_full (i j:Nat) (rows:List (List Int)):swpTo i j rows rows.length=rows.map (swpRow i j):=by simp [swpTo]
theorem swpTo_at (i j:Nat) (rows:List (List Int)) (k:Nat) (x:List Int) (h:rows[k]?=some x):(swpTo i j rows k)[k]?=some x:=by
 have hi:=(Zk h).1;unfold swpTo;rw [List.getElem?_append_right (by simp;omega)];simp only [List.length_map,List.length_take,List.getElem?_drop];rw [show k+(k - min k rows.length)=k by omega];exact h
theorem swpTo_step (i j:Nat) (rows:List (List Int)) (k:Nat) (x:List Int) (h:rows[k]?=some x):(swpTo i j rows k).set k (swpRow i j x)=swpTo i j rows (k+1):=by
 have hi:=(Zk h).1;obtain ⟨_,e⟩:=Zk h;unfold swpTo;rw [List.set_append_right _ _ (by simp;omega),List.length_map,List.length_take,show k - min k rows.length=0 by omega,List.drop_eq_getElem_cons hi,Zh,List.take_add_one,h,List.map_append,List.append_assoc];rfl
theorem swpRow_length (i j:Nat) (x:List Int):(swpRow i j x).length=x.length:=by simp [swpRow]
theorem pivJ_drop (i:Nat) (row:List Int) (j:Nat) (c:Int) (hc:row[j]?=some c):pivJ i (row.drop j) j=if j<i\/c=0 then pivJ i (row.drop (j+1)) (j+1) else some j:=by
 obtain ⟨h1,h2⟩:=Zk hc;rw [List.drop_eq_getElem_cons h1,h2,pivJ]
theorem swpF_each {i:Nat} {rows:List (List Int)} {L:Nat} (h: ∀r,r∈rows->r.length=L):(∀r,r∈swpF i rows->r.length=L)/\(swpF i rows).length=rows.length:=by
 unfold swpF;split
 ·exact ⟨h,rfl⟩
 ·refine ⟨fun r hr=> ?_,by simp⟩;obtain ⟨q,hq,rfl⟩:=List.mem_map.1 hr;rw [swpRow_length];exact h q hq
theorem jstep.calls (g o : Nat) (wb : Int) (S0 S : Nat -> Prop) (n co L i : Nat) (bs : List (Nat × Nat)) (rows : List (List Int)) (row : List Int) (W : World) (hw : wb = 8 \/ wb = 16) (hF : Fd W g wb (fpoly wb) S) (hx : ∀ k, S0 k -> S k) (hS : ∀ k, S k -> k < W.heap.size)
  (hM:Mx W o bs rows) (hSb: ∀(i b c:Nat),bs[i]?=some (b,c)->S0 b) (hn:rows.length=n) (hco:n<=co) (hnn:n<=100) (hL: ∀r,r∈rows->r.length=L) (hLL:L<=100) (hL1:1<=L) (hi:i<n) (hiL:i<L) (hrow:rows[i]?=some row):
  Calls Tryz.prog 113 #[.agg #[.pointer (some ⟨g,0,none⟩), .slice (some ⟨o,0,none⟩) n co], .int .i64 (i:Int)] W fun e w'=>e= .returned (.tuple #[])/\Mx w' o bs (stepF wb i rows)/\Fd w' g wb (fpoly wb) S/\BS W w' g S0:=by
 have HW:=Za hw;have HF:=Za (hF.alloc (.cells #[.pointer (some ⟨g,0,none⟩), .slice (some ⟨o,0,none⟩) n co] 146));have HX:=Za hx;have HS:=Za hS;have HM:=Za (hM.alloc (.cells #[.pointer (some ⟨g,0,none⟩), .slice (some ⟨o,0,none⟩) n co] 146));have HSB:=Za hSb;have HL:=Za hL;have HN:=Za hn;have HROW:=Za hrow;have hrl:=hL row (Zo hrow);have HRL:=Za hrl;obtain ⟨⟨bi,ci⟩,hbi⟩: ∃q,bs[i]?=some q:=⟨_,Zf (by have:=hM.len;omega)⟩;have HBI:=Za hbi;have hbx:(W.alloc (.cells #[.pointer (some ⟨g,0,none⟩), .slice (some ⟨o,0,none⟩) n co] 146)).heap[W.heap.size]?=some (.cells #[.pointer (some ⟨g,0,none⟩), .slice (some ⟨o,0,none⟩) n co] 146 (0,0)):=heap_alloc_new _ _;have HBX:=Za hbx;have HB:=Za (show BS W (W.alloc (.cells #[.pointer (some ⟨g,0,none⟩), .slice (some ⟨o,0,none⟩) n co] 146)) g S0 from BS.alloc (BS.refl _ _ _) _);have HGL:=Za hF.lt;have HOL:=Za hM.lt_o;have hb1:(W.alloc (.cells #[.pointer (some ⟨g,0,none⟩), .slice (some ⟨o,0,none⟩) n co] 146)).cell? ⟨W.heap.size,1,none⟩=some (.slice (some ⟨o,0,none⟩) n co):=(abz hbx 1).trans rfl
 have hoi:(W.alloc (.cells #[.pointer (some ⟨g,0,none⟩), .slice (some ⟨o,0,none⟩) n co] 146)).cell? ⟨o,i,none⟩=some (.slice (some ⟨bi,0,none⟩) L ci):=by rw [HM.out.clz hbi hrow,hrl]
 have i1:(0:Int)<=(i:Int):=by omega
 have i2:(i:Int)<(n:Int):=by omega
 have i3:(i:Int)<(L:Int):=by omega
 obtain ⟨res,hres⟩: ∃res,stepF wb i rows=res:=⟨_,rfl⟩;have HRES:=Za hres;rw [hres]
 have HPV:=Za (show swpF i rows=(match pivJ i (row.drop 0) 0 with |none=>rows|some j=>rows.map (swpRow i j)) by
  unfold swpF
  rw [Zm,hrow];rfl)
 clear hw hF hx hS hM hSb hL hn hrow hrl hbi hbx hres;go_enter Tryz.func113,Tryz.ntmps113
 go_upto_block 0 with fail
 generalize W.alloc (.cells #[.pointer (some ⟨g,0,none⟩), .slice (some ⟨o,0,none⟩) n co] 146)=w1 at HF HM HBX HB hb1 hoi|-;obtain ⟨fb,hfb⟩: ∃fb,fb=W.heap.size:=⟨_,rfl⟩;have HFB:=Za hfb;rw [<-hfb] at HBX hb1|-;clear hfb
 go_cut [] from 4 (fun wc=>Aside0 (Mx wc o bs (swpF i rows))/\Aside0 (Fd wc g wb (fpoly wb) S)/\Aside0 (BS W wc g S0)/\Aside0 (wc.heap[fb]?=some (.cells #[.pointer (some ⟨g,0,none⟩), .slice (some ⟨o,0,none⟩) n co] 146 (0,0))))
 case rest=>
  obtain ⟨HM2,HF2,HB2,HBX2⟩:=hcut;clear HF HM HB HBX hb1 hoi HPV;have HE:=Za (swpF_each (i:=i) HL.out);have HRES2:=HRES.out;unfold stepF at HRES2;have HRS:=Za HRES2;clear HRES2 HRES;generalize swpF i rows=r1 at HM2 HE HRS;obtain ⟨row1,hr1⟩: ∃r,r1[i]?=some r:=⟨_,Zf (by have:=HE.out.2;have:=HN.out;omega)⟩;have hl1:=HE.out.1 row1 (Zo hr1);obtain ⟨p,hp⟩: ∃p,row1[i]?=some p:=⟨_,Zf (by omega)⟩;have hc0:wc.cell? ⟨fb,0,none⟩=some (.pointer (some ⟨g,0,none⟩)):=(abz HBX2.out 0).trans rfl;have hc1:wc.cell? ⟨fb,1,none⟩=some (.slice (some ⟨o,0,none⟩) n co):=(abz HBX2.out 1).trans rfl;have hc2:wc.cell? ⟨o,i,none⟩=some (.slice (some ⟨bi,0,none⟩) L ci):=by rw [HM2.out.clz HBI.out hr1,hl1]
  have hc3:wc.cell? ⟨bi,i,none⟩=some (.int .i64 p):=HM2.out.cIz HBI.out hr1 hp;have HIV:=Za (gf_Inv.calls g S wb p wc.drew HW.out HF2.out.drew (fun q hq=>Zp (HS.out q hq) HB2.out.size))
  have HPR:=Za (show (r1.getD i []).getD i 0=p by
   have e1:r1.getD i [] =row1:=by rw [Zm,hr1];rfl
   rw [e1,Zm,hp];rfl)
  clear hr1 hl1 hp
  go_wp2_with fail
  refine bPz (n:=16) (S:=fun w'=>w'.cell? ⟨fb,0,none⟩=some (.pointer (some ⟨g,0,none⟩))/\w'.cell? ⟨fb,1,none⟩=some (.slice (some ⟨o,0,none⟩) n co)/\w'.cell? ⟨o,i,none⟩=some (.slice (some ⟨bi,0,none⟩) L ci)/\w'.cell? ⟨bi,i,none⟩=some (.int .i64 p)) (ds:= [10]) (bA 16 0) kr_ rfl rfl ⟨hc0,hc1,hc2,hc3⟩ (fun hHeld=> ?_);refine pu_ 0 52 1 ?_;refine pu_ 2 54 5 ?_;refine pu_ 4 56 21 ?_;refine pu_ 7 59 149 ?_;refine tk_ 1 53 151 hHeld ?_;refine tk_ 3 55 159 hHeld ?_;refine pu_ 5 57 191 ?_;refine tk_ 6 58 255 hHeld ?_;refine pu_ 8 60 511 ?_;refine tk_ 9 61 1023 hHeld ?_;refine last_ (i:=10) (N:=some 62) (bA 16 2047) rfl rfl kr_ (by decide) (fun K hK=> ?_);refine goes_ Tryz.func114 kr_ rfl #[.pointer (some ⟨g,0,none⟩), .int .i64 p] (by rfl) rfl rfl am_ ?_
  with_reducible refine (HIV.out).mono ?_
  rintro e w3 ⟨rfl,q1,q2⟩;refine ⟨_,rfl,?_⟩;have Q1:=Za q1;have Q3:=Za (show BB wc w3 g from ⟨q2.os,q2.tape,q2.output,q2.size,q2.block⟩);clear q1 q2;refine hK.out _ _ ?_;clear hK K;refine norm_ (a':= ?_) ?_ ?_;rotate_left
  ·show Act.put _ (some 62) _=_;simp only [Act.put,Zg,Zh,Zi,i64_w,i32_w];rfl
  refine pu_ 11 51 4095 ?_;refine pu_ 12 63 8191 ?_;refine pu_ 13 64 16383 ?_;refine pu_ 14 8 32767 ?_;refine pu_ 15 9 65535 ?_;refine done_ kr_ ?_;have hng:=HM2.out.ne_g (Fd.cells HF2.out).choose_spec;have HM3:=Za (HM2.out.bb hng Q3.out);have HB3:=Za (HB2.out.trans (BS.of_bb Q3.out));have hfg:fb≠g:=by have:=HFB.out;have:=HGL.out;omega
  have HBX3:=Za ((Q3.out.block fb (a1z HBX2.out) hfg).trans HBX2.out);have hbx30:w3.cell? ⟨fb,0,none⟩=some (.pointer (some ⟨g,0,none⟩)):=(abz HBX3.out 0).trans rfl;have hbx31:w3.cell? ⟨fb,1,none⟩=some (.slice (some ⟨o,0,none⟩) n co):=(abz HBX3.out 1).trans rfl;have HSC:=Za (scale.calls g o wb S0 S n co L 0 i (ginv wb p) bs r1 w3 HW.out Q1.out HX.out (fun q hq=>Zp (HS.out q hq) HB3.out.size) HM3.out HSB.out (HE.out.2.trans HN.out) hco hnn HE.out.1 hLL hiL (Nat.zero_le _) (by omega));clear hng;have HFG:=Za hfg;clear hfg
  go_wp2_with fail
  refine HSC.out.mono ?_;rintro e w5 ⟨rfl,m5,f5,b5⟩;have HB5:=Za (HB3.out.trans b5);have HBX5:=Za (b5.blk HBX3.out HFG.out (fun hs=>by have h1:=HS.out _ (HX.out _ hs);have h2:=HFB.out;omega));have hbx50:w5.cell? ⟨fb,0,none⟩=some (.pointer (some ⟨g,0,none⟩)):=(abz HBX5.out 0).trans rfl;have hbx51:w5.cell? ⟨fb,1,none⟩=some (.slice (some ⟨o,0,none⟩) n co):=(abz HBX5.out 1).trans rfl
  have hl2:(sclF wb (ginv wb p) 0 i r1).length=n:=by
   have:=HE.out.2;have:=HN.out;simp [sclF,sclTo];omega
  obtain ⟨row2,hr2⟩: ∃r,(sclF wb (ginv wb p) 0 i r1)[i]?=some r:=⟨_,Zf (by omega)⟩;have HJC:=Za (jclear.calls g o wb S0 S n co L i bs _ row2 w5 HW.out f5 HX.out (fun q hq=>Zp (HS.out q hq) HB5.out.size) m5 HSB.out hl2 hco hnn (eIz _ _ _ _ _ _ _ HE.out.1) hLL hL1 (by omega) hiL hr2)
  have HRF:=Za (show cutF wb i row2 0 (sclF wb (ginv wb p) 0 i r1)=res by
   rw [<-HRS.out];simp only [HPR.out]
   rw [Zm,hr2];rfl)
  rw [HRF.out] at HJC;clear m5 f5 b5 hl2 hr2 hbx30 hbx31
  go_wp2_with fail
  refine HJC.out.mono ?_;rintro e w6 ⟨rfl,m6,f6,b6⟩;have M6:=Za m6;have F6:=Za f6;have B6:=Za b6;clear m6 f6 b6;go_wp2
  go_end0
  exact ⟨rfl,M6.out,F6.out,HB5.out.trans B6.out⟩
 go_wp2
 go_loopw [16] (fun jv wr=> ∃j:Nat,j<=L/\jv= .int .i64 (j:Int)/\Aside0 (swpF i rows=(match pivJ i (row.drop j) j with |none=>rows|some j=>rows.map (swpRow i j)))/\wr=w1) (fun jv _=>L - (intOf jv).toNat)
 case atStart=>exact ⟨0,Nat.zero_le _,rfl,HPV,rfl⟩
 clear HPV;obtain ⟨j,hj,rfl,HPV,rfl⟩:=hrel;by_cases hlt:j<L
 ·obtain ⟨c,hc⟩: ∃c,row[j]?=some c:=⟨_,Zf (by have:=HRL.out;omega)⟩;have hcj:wr.cell? ⟨bi,j,none⟩=some (.int .i64 c):=HM.out.cIz HBI.out HROW.out hc;have hpd:=pivJ_drop i row j c hc;have j1:(0:Int)<=(j:Int):=by omega
  have j2:(j:Int)<(L:Int):=by omega
  by_cases hsk:j<i\/c=0
  ·rw [Ya hsk] at hpd;have HP2:=Za (HPV.out.trans (by rw [hpd]));clear hpd hc HPV;by_cases hji:j<i
   ·have h1:(j:Int)<(i:Int):=by omega
    go_wp2;go_roundw
    case rel=>exact ⟨j+1,by omega,by go_num,HP2,by first|rfl|trivial⟩
    case measure=>simp [intOf];omega
   ·obtain rfl:c=0:=hsk.resolve_left hji;have h1: ¬(j:Int)<(i:Int):=by omega
    go_wp2;go_roundw
    case rel=>exact ⟨j+1,by omega,by go_num,HP2,by first|rfl|trivial⟩
    case measure=>simp [intOf];omega
  ·rw [Yb hsk] at hpd;have HSW:=Za (show swpF i rows=rows.map (swpRow i j) from HPV.out.trans (by rw [hpd]));have h1: ¬(j:Int)<(i:Int):=by omega
   have h2:(c==0)=false:=by simp;omega
   have HM0:=Za (show Mx wr o bs (swpTo i j rows 0) by rw [swpTo_zero];exact HM.out);clear hpd hc HPV hsk;go_wp2
   go_loopw [31] (fun kv w2=> ∃k:Nat,k<=n/\kv= .int .i64 (k:Int)/\Aside0 (Mx w2 o bs (swpTo i j rows k))/\Aside0 (Fd w2 g wb (fpoly wb) S)/\Aside0 (BS W w2 g S0)/\Aside0 (w2.heap[fb]?=some (.cells #[.pointer (some ⟨g,0,none⟩), .slice (some ⟨o,0,none⟩) n co] 146 (0,0)))) (fun kv _=>n - (intOf kv).toNat)
   case atStart=>exact ⟨0,Nat.zero_le _,rfl,HM0,HF,HB,HBX⟩
   clear HM0 HF HB HBX HM hb1 hoi hcj;obtain ⟨w2,rfl⟩: ∃w2,w2=wr:=⟨_,rfl⟩;obtain ⟨k,hk,rfl,HM,HF,HB,HBX⟩:=hrel;by_cases hlt2:k<n
   ·obtain ⟨x,hx⟩: ∃x,rows[k]?=some x:=⟨_,Zf (by have:=HN.out;omega)⟩;have hat:=swpTo_at i j rows k x hx;obtain ⟨⟨bk,ck⟩,hbk⟩: ∃q,bs[k]?=some q:=⟨_,Zf (by have h1:=HM.out.len;have h2:=(Zk hat).1;omega)⟩;have hxl:=HL.out x (Zo hx);obtain ⟨y,hy⟩: ∃y,x[j]?=some y:=⟨_,Zf (by omega)⟩;obtain ⟨z,hz⟩: ∃z,x[i]?=some z:=⟨_,Zf (by omega)⟩;have hok:w2.cell? ⟨o,k,none⟩=some (.slice (some ⟨bk,0,none⟩) L ck):=by rw [HM.out.clz hbk hat,hxl]
    have hcy:w2.cell? ⟨bk,j,none⟩=some (.int .i64 y):=HM.out.cIz hbk hat hy;have hcz:w2.cell? ⟨bk,i,none⟩=some (.int .i64 z):=HM.out.cIz hbk hat hz;have hfi:=HM.out.froz_i hbk i;have hfj:=HM.out.froz_i hbk j;obtain ⟨v',hcy2⟩:=cell?_setCell_some (w:=w2) (p:=⟨bk,i,none⟩) (x:= .int .i64 y) (q:=⟨bk,j,none⟩) (v:= .int .i64 y) hcy;have k1:(0:Int)<=(k:Int):=by omega
    have k2:(k:Int)<(n:Int):=by omega
    have HBK:=Za hbk;have HAT:=Za hat;have HFBK:=Za (show bk<fb by have h1:=HS.out _ (HX.out _ (HSB.out _ _ _ hbk));have h2:=HFB.out;omega)
    have HST:=Za (show (swpTo i j rows k).set k ((x.set i y).set j z)=swpTo i j rows (k+1) by
     rw [<-swpTo_step i j rows k x hx];unfold swpRow
     rw [Zm,Zm,hy,hz];rfl)
    have hself:((swpTo i j rows k).set k (x.set i y))[k]?=some (x.set i y):=List.getElem?_set_self (Zk hat).1;have HSE:=Za hself;clear hx hat hbk hxl hy hz hself
    go_wp2_with fail
    refine bPz (n:=16) (S:=fun w'=>w'.cell? ⟨bk,j,none⟩=some (.int .i64 y)/\w'.cell? ⟨bk,i,none⟩=some (.int .i64 z)) (ds:= [13,15]) (bA 16 0) kr_ rfl rfl ⟨hcy,hcz⟩ (fun hHeld=> ?_);refine pu_ 0 35 1 ?_;refine pu_ 1 36 3 ?_;refine pu_ 2 37 7 ?_;refine pu_ 3 38 15 ?_;refine pu_ 4 39 31 ?_;refine pu_ 5 40 63 ?_;refine pu_ 6 41 127 ?_;refine pu_ 8 43 383 ?_;refine pu_ 9 44 895 ?_;refine pu_ 10 45 1919 ?_;refine tk_ 7 42 2047 hHeld ?_;refine tk_ 11 46 4095 hHeld ?_;refine pu_ 12 47 8191 ?_;refine last_ (i:=13) (N:=none) (bA 16 16383) rfl rfl kr_ (by decide) (fun K hK=> ?_);refine skip_ (w1:= ?_) (by rfl) rfl ?_ ?_;rotate_left
    ·go_simp;rfl
    refine hK.out _ _ ?_;clear hK K;refine pu_ 14 48 32767 ?_;refine last_ (i:=15) (N:=none) (bA 16 65535) rfl rfl kr_ (by decide) (fun K hK=> ?_);refine skip_ (w1:= ?_) (by rfl) rfl ?_ ?_;rotate_left
    ·go_simp;rfl
    refine hK.out _ _ ?_;clear hK K;refine done_ kr_ ?_;have HM2:=Za ((HM.out.drew.set (j:=i) HBK.out HAT.out y).set (j:=j) HBK.out HSE.out z);rw [List.set_set,HST.out] at HM2;have HF2:=Za ((HF.out.drew.set (q:=⟨bk,i,none⟩) (HX.out _ (HSB.out _ _ _ HBK.out)) (.int .i64 y)).set (q:=⟨bk,j,none⟩) (HX.out _ (HSB.out _ _ _ HBK.out)) (.int .i64 z));have HB2:=Za ((HB.out.drew.set (p:=⟨bk,i,none⟩) (.inl (HSB.out _ _ _ HBK.out)) (.int .i64 y)).set (p:=⟨bk,j,none⟩) (.inl (HSB.out _ _ _ HBK.out)) (.int .i64 z));have hfk:fb≠bk:=by have:=HFBK.out;omega
    have HBX2:=Za (byz (byz (cmz HBX.out) (show fb≠(⟨bk,i,none⟩:Addr).block from hfk) (.int .i64 y)) (show fb≠(⟨bk,j,none⟩:Addr).block from hfk) (.int .i64 z));go_wp2;go_roundw
    case rel=>exact ⟨k+1,by omega,by go_num,HM2,HF2,HB2,HBX2⟩
    case measure=>simp [intOf];omega
   ·obtain rfl:k=n:=by omega
    have HME:=Za (show Mx w2 o bs (swpF i rows) by
     have h:=HM.out
     rw [<-HN.out,swpTo_full, <-HSW.out] at h;exact h)
    go_wp2
    go_meet
    case rel=>exact ⟨HME,HF,HB,HBX⟩
 ·obtain rfl:j=L:=by omega
  have HE:=Za (show swpF i rows=rows by
   have h:=HPV.out;rw [List.drop_of_length_le (by rw [HRL.out];exact Zv _),pivJ] at h
   exact h)
  go_wp2
  go_meet
  case rel=>exact ⟨⟨by rw [HE.out];exact HM.out⟩,HF,HB,HBX⟩
def stepsF (wb:Int):Nat->List (List Int)->List (List Int)
 |0,rows=>rows
 |i+1,rows=>stepF wb i (stepsF wb i rows)
def colsF (wb:Int) (k:Nat):Nat->List (List Int)->List (List Int)
 |0,rows=>rows
 |j+1,rows=>let r:=colsF wb k j rows;sclF wb (ginv wb ((r.getD k []).getD j 0)) k j r
def rowInv (wb:Int) (row:List Int):List Int:=row.map fun x=>gmul wb x (ginv wb (row.getD 0 0))
def jvM (wb:Int) (k m:Nat):List (List Int):=
 let r:=(colsF wb k k (stepsF wb k (extM wb k m))).drop k
 r.take 1++(r.drop 1).map (rowInv wb)
theorem stepF_each {wb:Int} {i:Nat} {rows:List (List Int)} {L:Nat} (h: ∀r,r∈rows->r.length=L):(∀r,r∈stepF wb i rows->r.length=L)/\(stepF wb i rows).length=rows.length:=by
 have cut: ∀(cs:List Int) (j:Nat) (rs:List (List Int)),(∀r,r∈rs->r.length=L)->(∀r,r∈cutF wb i cs j rs->r.length=L)/\(cutF wb i cs j rs).length=rs.length:=by
  intro cs
  induction cs with
  |nil=>exact fun _ _ h=>⟨h,rfl⟩
  |cons c cs ih=>
   intro j rs h;have h1:=ezz (wb:=wb) (c:=c) (i:=i) (j:=j) h;have h2:=ih (j+1) _ h1.1;exact ⟨h2.1,h2.2.trans h1.2⟩
 unfold stepF;have h1:=swpF_each (i:=i) h;have h2:=eIz wb (ginv wb (((swpF i rows).getD i []).getD i 0)) 0 i (swpF i rows) ((swpF i rows).length - 0) L h1.1;have h3:=cut ((sclF wb (ginv wb (((swpF i rows).getD i []).getD i 0)) 0 i (swpF i rows)).getD i []) 0 _ h2;refine ⟨h3.1,h3.2.trans ?_⟩;rw [<-h1.2];simp [sclTo]
theorem ewz (wb:Int) (k m:Nat) (h1:1<=k) (h2:1<=m):(∀r,r∈extM wb k m->r.length=k)/\(extM wb k m).length=k+m:=by
 refine ⟨fun r hr=> ?_,by simp [extM,madeF];omega⟩;unfold extM at hr;rcases List.mem_append.1 hr with hr|hr
 ·simp only [madeF,List.mem_map] at hr;obtain ⟨i, -,rfl⟩:=hr;simp
 ·rw [List.mem_singleton.1 hr];simp [lastU]
def invTo (wb:Int) (k:Nat) (rows:List (List Int)) (i:Nat):List (List Int):=rows.take (k+1)++(((rows.drop (k+1)).take i).map (rowInv wb)++(rows.drop (k+1)).drop i)
theorem invTo_zero (wb:Int) (k:Nat) (rows:List (List Int)):invTo wb k rows 0=rows:=by simp [invTo]
theorem invTo_at (wb:Int) (k:Nat) (rows:List (List Int)) (i:Nat) (row:List Int) (hf:k+1<=rows.length) (h:rows[k+1+i]?=some row):(invTo wb k rows i)[k+1+i]?=some row:=by
 have hi:=(Zk h).1;unfold invTo;rw [List.getElem?_append_right (by simp;omega),List.length_take,Nat.min_eq_left hf,Nat.add_sub_cancel_left,List.getElem?_append_right (by simp;omega)];simp only [List.length_map,List.length_take,List.length_drop,List.getElem?_drop];rw [show k+1+(i+(i - min i (rows.length - (k+1))))=k+1+i by omega];exact h
theorem invTo_step (wb:Int) (k:Nat) (rows:List (List Int)) (i:Nat) (row:List Int) (hf:k+1<=rows.length) (h:rows[k+1+i]?=some row):(invTo wb k rows i).set (k+1+i) (rowInv wb row)=invTo wb k rows (i+1):=by
 have hi:=(Zk h).1;have h2:(rows.drop (k+1))[i]?=some row:=by rw [List.getElem?_drop];exact h
 obtain ⟨h3,h4⟩:=Zk h2;unfold invTo;rw [List.set_append_right _ _ (by simp;omega),List.length_take,Nat.min_eq_left hf,Nat.add_sub_cancel_left,List.set_append_right _ _ (by simp;omega),List.length_map,List.length_take,List.length_drop,show i - min i (rows.length - (k+1))=0 by omega,List.drop_eq_getElem_cons h3,Zh,List.take_add_one (l:=rows.drop (k+1)),h2,List.map_append,List.append_assoc (List.map _ _)];rfl
theorem invTo_full (wb:Int) (k:Nat) (rows:List (List Int)) (hf:k+1<=rows.length):(invTo wb k rows (rows.length - (k+1))).drop k=(rows.drop k).take 1++((rows.drop k).drop 1).map (rowInv wb):=by
 have e1:(rows.drop (k+1)).take (rows.length - (k+1))=rows.drop (k+1):=List.take_of_length_le (by simp);have e2:(rows.drop (k+1)).drop (rows.length - (k+1))= [] :=List.drop_of_length_le (by simp);unfold invTo;rw [e1,e2,List.append_nil,List.drop_append_of_le_length (by simp;omega),List.drop_drop];congr 1
 rw [List.drop_take];congr 1
 omega
def mulTo (wb c:Int) (row:List Int) (j:Nat):List Int:=(row.take j).map (fun x=>gmul wb x c)++row.drop j
theorem mulTo_zero (wb c:Int) (row:List Int):mulTo wb c row 0=row:=by simp [mulTo]
theorem mulTo_full (wb:Int) (row:List Int):mulTo wb (ginv wb (row.getD 0 0)) row row.length=rowInv wb row:=by simp [mulTo,rowInv]
theorem mulTo_at (wb c:Int) (row:List Int) (j:Nat) (x:Int) (h:row[j]?=some x):(mulTo wb c row j)[j]?=some x:=by
 have hi:=(Zk h).1;unfold mulTo;rw [List.getElem?_append_right (by simp;omega)];simp only [List.length_map,List.length_take,List.getElem?_drop];rw [show j+(j - min j row.length)=j by omega];exact h
theorem mulTo_step (wb c:Int) (row:List Int) (j:Nat) (x:Int) (h:row[j]?=some x):(mulTo wb c row j).set j (gmul wb x c)=mulTo wb c row (j+1):=by
 obtain ⟨hi,e⟩:=Zk h;unfold mulTo;rw [List.set_append_right _ _ (by simp;omega),List.length_map,List.length_take,show j - min j row.length=0 by omega,List.drop_eq_getElem_cons hi,Zh,List.take_add_one,h,List.map_append,List.append_assoc];rfl
theorem dTz {wb:Int} {rows:List (List Int)} {L:Nat} (h: ∀r,r∈rows->r.length=L): ∀i,(∀r,r∈stepsF wb i rows->r.length=L)/\(stepsF wb i rows).length=rows.length
 |0=>⟨h,rfl⟩
 |i+1=>by
  have h1:=dTz (wb:=wb) h i;have h2:=stepF_each (wb:=wb) (i:=i) h1.1;exact ⟨h2.1,h2.2.trans h1.2⟩
theorem eJz {wb:Int} {k:Nat} {rows:List (List Int)} {L:Nat} (h: ∀r,r∈rows->r.length=L): ∀j,(∀r,r∈colsF wb k j rows->r.length=L)/\(colsF wb k j rows).length=rows.length
 |0=>⟨h,rfl⟩
 |j+1=>by
  have h1:=eJz (wb:=wb) (k:=k) h j;refine ⟨eIz _ _ _ _ _ _ _ h1.1,?_⟩;have: ∀(c:Int) (rs:List (List Int)),(sclF wb c k j rs).length=rs.length:=fun c rs=>by simp [sclF,sclTo];omega
  exact (this _ _).trans h1.2
theorem BS.bb_of {W a b:World} {g:Nat} {S0:Nat->Prop} (h:BB W a g) (k:BS a b g S0) (hs: ∀q,S0 q->W.heap.size<=q):BB W b g:=
 ⟨k.os.trans h.os,k.tape.trans h.tape,k.output.trans h.output,Zt h.size k.size,fun i hi hg=>(k.block i (Zp hi h.size) hg (fun s=>by have:=hs i s;omega)).trans (h.block i hi hg)⟩
def NewG (g B q:Nat):Prop:=q≠g/\B<=q
theorem Mx.F_drop {W : World} {o : Nat} {bs : List (Nat × Nat)} {rows : List (List Int)} (h : Mx W o bs rows) {g B : Nat} (hg : o ≠ g /\ ∀ (i b c : Nat), bs[i]? = some (b, c) -> b ≠ g) (hB : B <= o /\ ∀ (i b c : Nat), bs[i]? = some (b, c) -> B <= b) (n : Nat) (hl : rows.length <= 1000) (hr : ∀ r, r ∈ rows -> r.length <= 1000) :
  Kd.F (dM 3 .i64) W (NewG g B) (some ⟨o,n,none⟩) (rows.drop n).length (rows.drop n):=by
 intro W' hW;have h':Mx W' o bs rows:=h.move (hW o ⟨hg.1,hB.1⟩ h.lt_o) (fun i b c hb=>hW b ⟨hg.2 i b c hb,hB.2 i b c hb⟩ (h.lt_i hb));refine ⟨rfl,by simp;omega,fun _=>⟨_,rfl,fun j p hp=> ?_⟩⟩;rw [List.getElem?_drop] at hp;obtain ⟨⟨b,c⟩,hb⟩: ∃q,bs[n+j]?=some q:=⟨_,Zf (by have h1:=h.len;have h2:=(Zk hp).1;omega)⟩;have hc:=h'.C_row hb hp 0 (hr p (Zo hp));rw [List.drop_zero] at hc;refine ⟨[.slice (some ⟨b,0,none⟩) p.length c],rfl,⟨_,c,rfl,(h'.inner _ b c p hb hp).1,hc⟩,fun i u hu=> ?_⟩
 cases i with
 |succ i=>simp at hu
 |zero=>
  obtain rfl:Value.slice (some ⟨b,0,none⟩) p.length c=u:=by simpa using hu
  have e:(⟨o,n,none⟩:Addr).add (j*(dM 3 .i64).sz+0)=⟨o,n+j,none⟩:=by
   show (⟨o,n,none⟩:Addr).add (j*1+0)=_;unfold Addr.add;split<;>simp_all
  rw [e];exact h'.clz hb hp
theorem jpar.calls (g : Nat) (wb : Int) (S : Nat -> Prop) (k m : Nat) (W : World) (hw : wb = 8 \/ wb = 16) (hF : Fd W g wb (fpoly wb) S) (hS : ∀ k, S k -> k < W.heap.size) (h1 : 1 <= k) (h2 : 1 <= m) (h3 : k <= 8) (h4 : m <= 4) :
  Calls Tryz.prog 76 #[.pointer (some ⟨g,0,none⟩), .int .i64 (k:Int), .int .i64 (m:Int)] W fun e w'=> ∃A c,e= .returned (.tuple #[.slice A m c, .int .i64 0])/\m<=c/\Kd.F (dM 3 .i64) w' (NewG g W.heap.size) A m (jvM wb k m)/\Fd w' g wb (fpoly wb) S/\BB W w' g:=by
 have HX:=Za (Extended.calls g wb S k m W hw hF hS h1 h2 h3 h4);have HE:=Za (ewz wb k m h1 h2);have HW:=Za hw;have HF:=Za hF;have HS:=Za hS;obtain ⟨res,hres⟩: ∃r,jvM wb k m=r:=⟨_,rfl⟩;rw [hres];unfold jvM at hres;have HRES:=Za hres;generalize extM wb k m=ext at HX HE HRES;have hmf: ∀(fn:Fn) (first cap:Array Value) (w:World),(Instr.makeFunc fn first cap).run Tryz.prog w= .ok (.func fn first cap) w:=fun _ _ _ _=>rfl
 clear hw hF hS hres;go_enter Tryz.func76,Tryz.ntmps76
 go_wp2_with fail
 refine HX.out.mono ?_;rintro e w1 ⟨v,Own,rfl,q1,q2,qo,q3⟩;obtain ⟨o,co,bs,rfl,hco,hBo,hMx,hbs,hoo,hob⟩:=S_MxO q1 (by rw [HE.out.2];omega) (fun r hr=>by rw [HE.out.1 r hr];omega);rw [HE.out.2] at hco|-;have HCO:=Za hco;have HBO:=Za hBo;have HMX:=Za hMx;have HBS:=Za hbs;obtain ⟨S0,hS0⟩: ∃S0:Nat->Prop,S0=(fun q=>q=o\/ ∃(i c:Nat),bs[i]?=some (q,c)):=⟨_,rfl⟩;have HS0o:=Za (show S0 o by rw [hS0];exact .inl rfl);have HS0b:=Za (show∀(i b c:Nat),bs[i]?=some (b,c)->S0 b by rw [hS0];exact fun i b c h=> .inr ⟨i,c,h⟩)
 have HS0w:=Za (show∀q,S0 q->W.heap.size<=q/\q<w1.heap.size by
  rw [hS0];rintro q (rfl|⟨i,c,h⟩)
  ·exact ⟨hBo,hMx.lt_o⟩
  ·exact ⟨hbs i q c h,hMx.lt_i h⟩)
 have HF1:=Za (show Fd w1 g wb (fpoly wb) (fun q=>S q\/S0 q) from q2.thin (fun q _ hs=>hs.elim .inl (fun h=> .inr (by rw [hS0] at h;rcases h with rfl|⟨i,c,h⟩;exact hoo;exact hob i q c h))));have HB1:=Za q3;clear hco hBo hMx hbs q1 q2 q3 HX hoo hob qo hS0;obtain ⟨SS,hSS⟩: ∃SS:Nat->Prop,SS=(fun q=>S q\/S0 q):=⟨_,rfl⟩;have HSX:=Za (show∀q,S0 q->SS q by rw [hSS];exact fun q h=> .inr h)
 have HSS:=Za (show∀q,SS q->q<w1.heap.size by
  rw [hSS];rintro q (h|h)
  ·have:=HS.out q h;have:=HB1.out.size;omega
  ·exact (HS0w.out q h).2)
 rw [<-hSS] at HF1;have HSE:=Za hSS;clear hSS;obtain ⟨n,hn⟩: ∃n,k+m=n:=⟨_,rfl⟩;have HN:=Za hn;have n1:k<n:=by omega
 have n2:n<=12:=by omega
 rw [hn] at HCO HE|-;clear hn;go_wp2;have HBX:=Za (show (w1.alloc (.cells #[.pointer (some ⟨g,0,none⟩), .slice (some ⟨o,0,none⟩) n co] 146)).heap[w1.heap.size]?=some (.cells #[.pointer (some ⟨g,0,none⟩), .slice (some ⟨o,0,none⟩) n co] 146 (0,0)) from heap_alloc_new _ _);have HF2:=Za (HF1.out.alloc (.cells #[.pointer (some ⟨g,0,none⟩), .slice (some ⟨o,0,none⟩) n co] 146));have HM2:=Za (show Mx (w1.alloc (.cells #[.pointer (some ⟨g,0,none⟩), .slice (some ⟨o,0,none⟩) n co] 146)) o bs (stepsF wb 0 ext) from HMX.out.alloc _);have HB2:=Za (HB1.out.alloc (.cells #[.pointer (some ⟨g,0,none⟩), .slice (some ⟨o,0,none⟩) n co] 146));generalize w1.alloc (.cells #[.pointer (some ⟨g,0,none⟩), .slice (some ⟨o,0,none⟩) n co] 146)=w2 at HBX HF2 HM2 HB2|-;obtain ⟨fb,hfb⟩: ∃fb,w1.heap.size=fb:=⟨_,rfl⟩;have HFB:=Za (show∀q,SS q->q<fb by rw [<-hfb];exact HSS.out);have HFG:=Za (show fb≠g by have:=HF1.out.lt;omega);have HFL:=Za (show∀w',BB W w' g->w'.heap[fb]?=some (.cells #[.pointer (some ⟨g,0,none⟩), .slice (some ⟨o,0,none⟩) n co] 146 (0,0))-> ∀q,SS q->q<w'.heap.size from fun w' _ hb q hq=>Nat.lt_trans (HFB.out q hq) (a1z hb))
 have HF0:=Za (show¬SS fb from fun h=>by have:=HFB.out fb h;omega);have HSW:=Za (show∀q,S0 q->W.heap.size<=q from fun q h=>(HS0w.out q h).1);rw [hfb] at HBX|-;clear hfb HSS HF1 HB1 HMX;have HST:=Za (fun i=>dTz (wb:=wb) HE.out.1 i)
 go_loopw [39] (fun iv wr=> ∃i:Nat,i<=k/\iv= .int .i64 (i:Int)/\Aside0 (Mx wr o bs (stepsF wb i ext))/\Aside0 (Fd wr g wb (fpoly wb) SS)/\Aside0 (BB W wr g)/\Aside0 (wr.heap[fb]?=some (.cells #[.pointer (some ⟨g,0,none⟩), .slice (some ⟨o,0,none⟩) n co] 146 (0,0)))) (fun iv _=>k - (intOf iv).toNat)
 case atStart=>exact ⟨0,Nat.zero_le _,rfl,HM2,HF2,HB2,HBX⟩
 clear HM2 HF2 HB2 HBX;obtain ⟨w3,rfl⟩: ∃w3,w3=wr:=⟨_,rfl⟩;obtain ⟨i,hi,rfl,HM,HF2,HB,HBX⟩:=hrel;by_cases hlt:i<k
 ·obtain ⟨row,hrow⟩: ∃row,(stepsF wb i ext)[i]?=some row:=⟨_,Zf (by have h1:=(HST.out i).2;have h2:=HE.out.2;omega)⟩;have HJ:=Za (jstep.calls g o wb S0 SS n co k i bs (stepsF wb i ext) row w3 HW.out HF2.out HSX.out (HFL.out w3 HB.out HBX.out) HM.out HS0b.out ((HST.out i).2.trans HE.out.2) HCO.out (by omega) (HST.out i).1 (by omega) (by omega) (by omega) hlt hrow);clear hrow
  go_wp2_with fail
  refine HJ.out.mono ?_;rintro e w4 ⟨rfl,m4,f4,b4⟩;have M4:=Za (show Mx w4 o bs (stepsF wb (i+1) ext) from m4);have F4:=Za f4;have B4:=Za (BS.bb_of HB.out b4 HSW.out);have X4:=Za (b4.blk HBX.out HFG.out (fun h=>HF0.out (HSX.out _ h)));clear m4 f4 b4 HJ;go_wp2;go_roundw
  case rel=>exact ⟨i+1,by omega,by go_num,M4,F4,B4,X4⟩
  case measure=>simp [intOf];omega
 ·obtain rfl:i=k:=by omega
  have HR1:=HRES.out;obtain ⟨r1,hr1⟩: ∃r1,stepsF wb i ext=r1:=⟨_,rfl⟩;have HE1:=Za (show (∀r,r∈r1->r.length=i)/\r1.length=n by rw [<-hr1];exact ⟨(HST.out i).1,(HST.out i).2.trans HE.out.2⟩);rw [hr1] at HM HR1;have HRES1:=Za HR1;have HCL:=Za (fun j=>eJz (wb:=wb) (k:=i) HE1.out.1 j);clear hr1 HR1 HRES HST;obtain ⟨⟨bk,ck⟩,hbk⟩: ∃q,bs[i]?=some q:=⟨_,Zf (by have h1:=HM.out.len;have h2:=HE1.out.2;omega)⟩;have HBK:=Za hbk;obtain ⟨rk,hrk⟩: ∃r,r1[i]?=some r:=⟨_,Zf (by have h2:=HE1.out.2;omega)⟩;have hok:w3.cell? ⟨o,i,none⟩=some (.slice (some ⟨bk,0,none⟩) i ck):=by rw [HM.out.clz hbk hrk,HE1.out.1 rk (Zo hrk)]
  have HM0:=Za (show Mx w3 o bs (colsF wb i 0 r1) from HM.out);have k1:(0:Int)<=(i:Int):=by omega
  have k2:(i:Int)<(n:Int):=by omega
  clear hbk hrk HM;go_wp2;clear hok
  go_loopw [51] (fun jv wr=> ∃j:Nat,j<=i/\jv= .int .i64 (j:Int)/\Aside0 (Mx wr o bs (colsF wb i j r1))/\Aside0 (Fd wr g wb (fpoly wb) SS)/\Aside0 (BB W wr g)/\Aside0 (wr.heap[fb]?=some (.cells #[.pointer (some ⟨g,0,none⟩), .slice (some ⟨o,0,none⟩) n co] 146 (0,0)))) (fun jv _=>i - (intOf jv).toNat)
  case atStart=>exact ⟨0,Nat.zero_le _,rfl,HM0,HF2,HB,HBX⟩
  clear HM0 HF2 HB HBX;obtain ⟨w4,rfl⟩: ∃w4,w4=wr:=⟨_,rfl⟩;obtain ⟨j,hj,rfl,HM,HF2,HB,HBX⟩:=hrel;by_cases hlt2:j<i
  ·have h3:=(HCL.out j).2;have h4:=HE1.out.2;obtain ⟨row,hrow⟩: ∃row,(colsF wb i j r1)[i]?=some row:=⟨_,Zf (by omega)⟩;obtain ⟨x,hx⟩: ∃x,row[j]?=some x:=⟨_,Zf (by rw [(HCL.out j).1 row (Zo hrow)];exact hlt2)⟩;have hcx:w4.cell? ⟨bk,j,none⟩=some (.int .i64 x):=HM.out.cIz HBK.out hrow hx
   have HXX:=Za (show ((colsF wb i j r1).getD i []).getD j 0=x by
    have e1:(colsF wb i j r1).getD i [] =row:=by rw [Zm,hrow];rfl
    rw [e1,Zm,hx];rfl)
   have HIV:=Za (gf_Inv.calls g SS wb x w4 HW.out HF2.out (HFL.out w4 HB.out HBX.out));have j1:(0:Int)<=(j:Int):=by omega
   have j2:(j:Int)<(i:Int):=by omega
   clear hrow hx h3 h4
   go_wp2_with fail
   refine HIV.out.mono ?_;rintro e w5 ⟨rfl,q1,q2⟩;have hng:=HM.out.ne_g (Fd.cells HF2.out).choose_spec;have M5:=Za (HM.out.bb hng q2);have F5:=Za q1;have B5:=Za (HB.out.trans q2);have X5:=Za ((q2.block fb (a1z HBX.out) HFG.out).trans HBX.out);have hbx0:w5.cell? ⟨fb,0,none⟩=some (.pointer (some ⟨g,0,none⟩)):=(abz X5.out 0).trans rfl;have hbx1:w5.cell? ⟨fb,1,none⟩=some (.slice (some ⟨o,0,none⟩) n co):=(abz X5.out 1).trans rfl;have HSC:=Za (scale.calls g o wb S0 SS n co i i j (ginv wb x) bs (colsF wb i j r1) w5 HW.out F5.out HSX.out (HFL.out w5 B5.out X5.out) M5.out HS0b.out ((HCL.out j).2.trans HE1.out.2) HCO.out (by omega) (HCL.out j).1 (by omega) hlt2 (by omega) (by omega))
   have HNX:=Za (show sclF wb (ginv wb x) i j (colsF wb i j r1)=colsF wb i (j+1) r1 by
    show _=(let r:=colsF wb i j r1;sclF wb (ginv wb ((r.getD i []).getD j 0)) i j r)
    simp only [HXX.out])
   rw [HNX.out] at HSC;clear q1 q2 hng hcx HIV
   go_wp2_with fail
   refine HSC.out.mono ?_;rintro e w6 ⟨rfl,m6,f6,b6⟩;have M6:=Za m6;have F6:=Za f6;have B6:=Za (BS.bb_of B5.out b6 HSW.out);have X6:=Za (b6.blk X5.out HFG.out (fun h=>HF0.out (HSX.out _ h)));clear m6 f6 b6 HSC hbx0 hbx1;go_wp2;go_roundw
   case rel=>exact ⟨j+1,by omega,by go_num,M6,F6,B6,X6⟩
   case measure=>simp [intOf];omega
  ·obtain rfl:i=j:=by omega
   have HR1:=HRES1.out;obtain ⟨r2,hr2⟩: ∃r2,colsF wb i i r1=r2:=⟨_,rfl⟩;have HE2:=Za (show (∀r,r∈r2->r.length=i)/\r2.length=n by rw [<-hr2];exact ⟨(HCL.out i).1,(HCL.out i).2.trans HE1.out.2⟩);rw [hr2] at HM HR1
   have HR2:=Za (show (invTo wb i r2 (n - (i+1))).drop i=res by
    have e:=invTo_full wb i r2 (by rw [HE2.out.2];omega);rw [HE2.out.2] at e
    exact e.trans HR1)
   clear hr2 HR1 HRES1 HCL;obtain ⟨nl,hnl⟩: ∃nl,n - (i+1)=nl:=⟨_,rfl⟩;have HNL:=Za (show i+1+nl=n by omega);have hnl100:nl<=100:=by omega
   have hmm:n - i=m:=by have:=HN.out;omega
   have f6: ¬co=i:=by have:=HCO.out;omega
   have p1:(0:Int)<=(i:Int)+1:=by omega
   have p2:(i:Int)+1<=(n:Int):=by omega
   have HM0:=Za (show Mx w4 o bs (invTo wb i r2 0) by rw [invTo_zero];exact HM.out);rw [hnl] at HR2
   have HFIN:=Za (show∀w',Mx w' o bs (invTo wb i r2 nl)->Fd w' g wb (fpoly wb) SS->BB W w' g->(m<=co - i/\Kd.F (dM 3 .i64) w' (NewG g W.heap.size) (some ⟨o,i,none⟩) m res/\Fd w' g wb (fpoly wb) S/\BB W w' g) from fun w' a b c=>by
    have hll:(invTo wb i r2 nl).length=n:=by
     have h1:=HE2.out.2;have h2:=HNL.out;simp [invTo];omega
    have hF:=a.F_drop (a.ne_g (Fd.cells b).choose_spec) ⟨HBO.out,HBS.out⟩ i (by omega) (fun r hr=>by
     have:r.length=i:=by
      unfold invTo at hr;rcases List.mem_append.1 hr with hr|hr
      ·exact HE2.out.1 r (List.mem_of_mem_take hr)
      ·rcases List.mem_append.1 hr with hr|hr
       ·obtain ⟨q,hq,rfl⟩:=List.mem_map.1 hr;simp only [rowInv,List.length_map];exact HE2.out.1 q (List.mem_of_mem_drop (List.mem_of_mem_take hq))
       ·exact HE2.out.1 r (List.mem_of_mem_drop (List.mem_of_mem_drop hr))
     omega)
    rw [List.length_drop,hll,hmm,HR2.out] at hF
    exact ⟨by have:=HCO.out;omega,hF,b.thin (fun q _ hq=>by rw [HSE.out];exact .inl hq),c⟩)
   clear HM;by_cases hco:co=i+1
   ·subst hco;obtain rfl:nl=0:=by have:=HCO.out;have:=HNL.out;omega
    go_wp2
    go_loopw [73] (fun jv wr=>jv= .int .i64 0/\wr=w4) (fun _ _=>0)
    case atStart=>exact ⟨rfl,rfl⟩
    obtain ⟨rfl,rfl⟩:=hrel;go_wp2;go_ret2;obtain ⟨z1,z2,z3,z4⟩:=HFIN.out _ HM0.out HF2.out HB.out;exact ⟨_,_,rfl,by omega,z2,z3,z4⟩
   ·go_wp2
    go_loopw [73] (fun tv wr=> ∃t:Nat,t<=nl/\tv= .int .i64 (t:Int)/\Aside0 (Mx wr o bs (invTo wb i r2 t))/\Aside0 (Fd wr g wb (fpoly wb) SS)/\Aside0 (BB W wr g)/\Aside0 (fb<wr.heap.size)) (fun tv _=>nl - (intOf tv).toNat)
    case atStart=>exact ⟨0,Nat.zero_le _,rfl,HM0,HF2,HB,⟨a1z HBX.out⟩⟩
    clear HM0 HF2 HB HBX;obtain ⟨w5,rfl⟩: ∃w5,w5=wr:=⟨_,rfl⟩;obtain ⟨t,ht,rfl,HM,HF2,HB,HFS⟩:=hrel;by_cases hlt3:t<nl
    ·obtain ⟨row,hrow⟩: ∃r,r2[i+1+t]?=some r:=⟨_,Zf (by have:=HE2.out.2;have:=HNL.out;omega)⟩;have hat:=invTo_at wb i r2 t row (by rw [HE2.out.2];omega) hrow;obtain ⟨⟨bi,ci⟩,hbi⟩: ∃q,bs[i+1+t]?=some q:=⟨_,Zf (by have h1:=HM.out.len;have h2:=(Zk hat).1;omega)⟩;have hrl:=HE2.out.1 row (Zo hrow);obtain ⟨x0,hx0⟩: ∃x,row[0]?=some x:=⟨_,Zf (by omega)⟩;have hco1:w5.cell? ⟨o,i+1+t,none⟩=some (.slice (some ⟨bi,0,none⟩) i ci):=by rw [HM.out.clz hbi hat,hrl]
     have hci:w5.cell? ⟨bi,0,none⟩=some (.int .i64 x0):=HM.out.cIz hbi hat hx0;have HIV:=Za (gf_Inv.calls g SS wb x0 w5 HW.out HF2.out (fun q hq=>Nat.lt_trans (HFB.out q hq) HFS.out));have t1:(0:Int)<=(t:Int):=by omega
     have t2:(t:Int)<(nl:Int):=by omega
     have HROW:=Za hrow;have HAT:=Za hat;have HBI:=Za hbi;have HRL:=Za hrl;have HX0:=Za (show row.getD 0 0=x0 by rw [Zm,hx0];rfl);clear hrow hat hbi hrl hx0
     go_wp2_with fail
     refine HIV.out.mono ?_;rintro e w6 ⟨rfl,q1,q2⟩;have hng:=HM.out.ne_g (Fd.cells HF2.out).choose_spec;have HNG:=Za hng
     have HM6:=Za (show Mx w6 o bs ((invTo wb i r2 t).set (i+1+t) (mulTo wb (ginv wb x0) row 0)) by
      obtain ⟨hl,e⟩:=Zk HAT.out;rw [mulTo_zero, <-e,List.set_getElem_self]
      exact HM.out.bb hng q2)
     have HF6:=Za q1;have HB6:=Za (HB.out.trans q2);have HFS6:=Za (Zp HFS.out q2.size)
     have HFU:=Za (show ((invTo wb i r2 t).set (i+1+t) (mulTo wb (ginv wb x0) row i))=invTo wb i r2 (t+1) by
      rw [<-invTo_step wb i r2 t row (by rw [HE2.out.2];omega) HROW.out, <-HX0.out];congr 1
      have:=mulTo_full wb row;rw [HRL.out] at this
      exact this)
     clear q1 q2 hng hco1 hci HIV HM HF2 HB HFS;generalize ginv wb x0=c at HM6 HFU|-;go_wp2
     go_loopw [87] (fun jv wr=> ∃j:Nat,j<=i/\jv= .int .i64 (j:Int)/\Aside0 (Mx wr o bs ((invTo wb i r2 t).set (i+1+t) (mulTo wb c row j)))/\Aside0 (Fd wr g wb (fpoly wb) SS)/\Aside0 (BB W wr g)/\Aside0 (fb<wr.heap.size)) (fun jv _=>i - (intOf jv).toNat)
     case atStart=>exact ⟨0,Nat.zero_le _,rfl,HM6,HF6,HB6,HFS6⟩
     clear HM6 HF6 HB6 HFS6;obtain ⟨w7,rfl⟩: ∃w7,w7=wr:=⟨_,rfl⟩;obtain ⟨j,hj,rfl,HM7,HF7,HB7,HS7⟩:=hrel;by_cases hlt4:j<i
     ·obtain ⟨x,hx⟩: ∃x,row[j]?=some x:=⟨_,Zf (by rw [HRL.out];exact hlt4)⟩;have hself:((invTo wb i r2 t).set (i+1+t) (mulTo wb c row j))[i+1+t]?=some (mulTo wb c row j):=List.getElem?_set_self (Zk HAT.out).1;have hcx:w7.cell? ⟨bi,j,none⟩=some (.int .i64 x):=HM7.out.cIz HBI.out hself (mulTo_at wb c row j x hx);have hfx:=HM7.out.froz_i HBI.out j;have HMU:=Za (csz.calls g SS wb x c w7 HW.out HF7.out (fun q hq=>Nat.lt_trans (HFB.out q hq) HS7.out));have HCI:=Za (show∀w3,BB w7 w3 g->w3.cell? ⟨bi,j,none⟩=some (.int .i64 x)/\w3.frozen? ⟨bi,j,none⟩=false from fun w3 h=>⟨ciz h hcx (HNG.out.2 _ _ _ HBI.out),froz_bb h (p:=⟨bi,j,none⟩) (HM7.out.lt_i HBI.out) hfx (HNG.out.2 _ _ _ HBI.out)⟩);have HSTP:=Za (mulTo_step wb c row j x hx);have HSELF:=Za hself;have j1:(0:Int)<=(j:Int):=by omega
      have j2:(j:Int)<(i:Int):=by omega
      clear hx hself hfx
      go_wp2_with fail
      refine HMU.out.mono ?_;rintro e w8 ⟨rfl,q1,q2⟩;obtain ⟨d1,d2⟩:=HCI.out w8 q2;have M8:=Za ((HM7.out.bb HNG.out q2).set (j:=j) HBI.out HSELF.out (gmul wb x c));rw [List.set_set,HSTP.out] at M8;have F8:=Za (q1.set (q:=⟨bi,j,none⟩) (HSX.out _ (HS0b.out _ _ _ HBI.out)) (.int .i64 (gmul wb x c)));have B8:=Za ((HB7.out.trans q2).new (HSW.out _ (HS0b.out _ _ _ HBI.out)) j (.int .i64 (gmul wb x c)));have S8:=Za (show fb<(w8.setCell ⟨bi,j,none⟩ (.int .i64 (gmul wb x c))).heap.size by simpa using Zp HS7.out q2.size);clear q1 q2 hcx HMU HCI;go_wp2;go_roundw
      case rel=>exact ⟨j+1,by omega,by go_num,M8,F8,B8,S8⟩
      case measure=>simp [intOf];omega
     ·obtain rfl:i=j:=by omega
      rw [HFU.out] at HM7;go_wp2;go_roundw
      case rel=>exact ⟨t+1,by omega,by go_num,HM7,HF7,HB7,HS7⟩
      case measure=>simp [intOf];omega
    ·obtain rfl:t=nl:=by omega
     go_wp2;go_ret2;obtain ⟨z1,z2,z3,z4⟩:=HFIN.out _ HM.out HF2.out HB.out;exact ⟨_,_,rfl,z1,z2,z3,z4⟩
end Go.Proofs.Xc
end
