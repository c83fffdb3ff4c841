-- Joined texts of this work (wip/tools/bundle.py).
import Derived.Shelf.Abstract
import Derived.Shelf.RegionOpen
import Derived.OwnWalkIn
import Derived.TacticsInMore
import Derived.LoopNIn
import Derived.LoopIn
import Derived.Test.YtpdakdcmahlghaaGreatBTrialTells7
set_option maxHeartbeats 4000000
set_option maxRecDepth 100000
set_option linter.unusedVariables false
set_option linter.unusedSimpArgs false
section
namespace Go.Proofs.Xc
open Go.RowKit Go.Proofs.Pw Go.Proofs.Pl Go.Proofs.Pm
attribute [local go_sem] bcz bdz bpz bqz a4z a5z bez bfz
def cutRow (wb c:Int) (i j:Nat) (x:List Int):List Int:=x.set j (Go.bits .xor .i64 (x.getD j 0) (gmul wb (x.getD i 0) c))
def cutTo (wb c:Int) (i j:Nat) (rows:List (List Int)) (k:Nat):List (List Int):=(rows.take k).map (cutRow wb c i j)++rows.drop k
def cutCol (wb c:Int) (i j:Nat) (rows:List (List Int)):List (List Int):=if j=i then rows else rows.map (cutRow wb c i j)
def cutF (wb:Int) (i:Nat):List Int->Nat->List (List Int)->List (List Int)
 | [],_,rows=>rows
 |c::cs,j,rows=>cutF wb i cs (j+1) (cutCol wb c i j rows)
theorem cutTo_zero (wb c:Int) (i j:Nat) (rows:List (List Int)):cutTo wb c i j rows 0=rows:=by simp [cutTo]
theorem cutTo_full (wb c:Int) (i j:Nat) (rows:List (List Int)):cutTo wb c i j rows rows.length=rows.map (cutRow wb c i j):=by simp [cutTo]
theorem cutTo_at (wb c:Int) (i j:Nat) (rows:List (List Int)) (k:Nat) (x:List Int) (h:rows[k]?=some x):(cutTo wb c i j rows k)[k]?=some x:=by
 have hi:=(Zk h).1;unfold cutTo;rw [List.getElem?_append_right (by simp;omega)];simp only [List.length_map,List.length_take,List.getElem?_drop];rw [show k+(k - min k rows.length)=k by omega];exact h
theorem cutTo_step (wb c:Int) (i j:Nat) (rows:List (List Int)) (k:Nat) (x:List Int) (h:rows[k]?=some x):(cutTo wb c i j rows k).set k (cutRow wb c i j x)=cutTo wb c i j rows (k+1):=by
 have hi:=(Zk h).1;obtain ⟨_,e⟩:=Zk h;unfold cutTo;rw [List.set_append_right _ _ (by simp;omega),List.length_map,List.length_take,show k - min k rows.length=0 by omega,List.drop_eq_getElem_cons hi,Zh,List.take_add_one,h,List.map_append,List.append_assoc];rfl
theorem cutRow_length (wb c:Int) (i j:Nat) (x:List Int):(cutRow wb c i j x).length=x.length:=by simp [cutRow]
theorem eKz {wb c:Int} {i j:Nat} {rows:List (List Int)} {L:Nat} (h: ∀r,r∈rows->r.length=L):(∀r,r∈cutCol wb c i j rows->r.length=L)/\(cutCol wb c i j rows).length=rows.length:=by
 unfold cutCol;split
 ·exact ⟨h,rfl⟩
 ·refine ⟨fun r hr=> ?_,by simp⟩;obtain ⟨q,hq,rfl⟩:=List.mem_map.1 hr;rw [cutRow_length];exact h q hq
theorem jclear.calls (g o : Nat) (wb : Int) (S0 S : Nat -> Prop) (n co L i : Nat) (bs : List (Nat × Nat)) (rows : List (List Int)) (row : List Int) (W : World) (hw : wb = 8 \/ wb = 16) (hF : Fd W g wb (fpoly wb) S) (hx : ∀ k, S0 k -> S k) (hS : ∀ k, S k -> k < W.heap.size)
  (hM:Mx W o bs rows) (hSb: ∀(i b c:Nat),bs[i]?=some (b,c)->S0 b) (hn:rows.length=n) (hco:n<=co) (hnn:n<=100) (hL: ∀r,r∈rows->r.length=L) (hLL:L<=100) (hL1:1<=L) (hi:i<n) (hiL:i<L) (hrow:rows[i]?=some row):
  Calls Tryz.prog 158 #[.agg #[.pointer (some ⟨g,0,none⟩), .slice (some ⟨o,0,none⟩) n co], .int .i64 (i:Int)] W fun e w'=>e= .returned (.tuple #[])/\Mx w' o bs (cutF wb i row 0 rows)/\Fd w' g wb (fpoly wb) S/\BS W w' g S0:=by
 have HW:=Za hw;obtain ⟨R0,hR0⟩: ∃R0,cutF wb i row 0 rows=R0:=⟨_,rfl⟩;have HR0:=Za (show cutF wb i (row.drop 0) 0 rows=R0 from hR0);rw [hR0];clear hR0;have HF:=Za (hF.more.alloc (.cells #[.pointer (some ⟨g,0,none⟩), .slice (some ⟨o,0,none⟩) n co] 146));have HX:=Za hx;have HS:=Za hS;have HM:=Za (hM.alloc (.cells #[.pointer (some ⟨g,0,none⟩), .slice (some ⟨o,0,none⟩) n co] 146));have HSB:=Za hSb;have HL:=Za hL;have HN:=Za hn;have hbx:(W.alloc (.cells #[.pointer (some ⟨g,0,none⟩), .slice (some ⟨o,0,none⟩) n co] 146)).heap[W.heap.size]?=some (.cells #[.pointer (some ⟨g,0,none⟩), .slice (some ⟨o,0,none⟩) n co] 146 (0,0)):=heap_alloc_new _ _;have HB:=Za (show BS W (W.alloc (.cells #[.pointer (some ⟨g,0,none⟩), .slice (some ⟨o,0,none⟩) n co] 146)) g S0 from BS.alloc (BS.refl _ _ _) _);have HGL:=Za hF.lt;have HROW:=Za hrow;have HOL:=Za hM.lt_o;have HRL:=Za (hL row (Zo hrow));have i1:(0:Int)<=(i:Int):=by omega
 have i2:(i:Int)<(n:Int):=by omega
 obtain ⟨⟨bi,ci⟩,hbi⟩: ∃q,bs[i]?=some q:=⟨_,Zf (by have:=hM.len;omega)⟩;have hb1:((W.alloc (.cells #[.pointer (some ⟨g,0,none⟩), .slice (some ⟨o,0,none⟩) n co] 146)).alloc (.cells #[] 3)).cell? ⟨W.heap.size,1,none⟩=some (.slice (some ⟨o,0,none⟩) n co):=(abz (bGz hbx _) 1).trans rfl;have hM1:=HM.out.alloc (.cells #[] 3);have hco1:((W.alloc (.cells #[.pointer (some ⟨g,0,none⟩), .slice (some ⟨o,0,none⟩) n co] 146)).alloc (.cells #[] 3)).cell? ⟨o,i,none⟩=some (.slice (some ⟨bi,0,none⟩) L ci):=by rw [hM1.cAz hbi hrow,hL row (Zo hrow)]
 have hne:((W.alloc (.cells #[.pointer (some ⟨g,0,none⟩), .slice (some ⟨o,0,none⟩) n co] 146)).alloc (.cells #[] 3)).heap[W.heap.size+1]?=some (.cells #[] 3 (0,0)):=cFz _ _ _ (by simp);have HO0:=Za (show ((W.alloc (.cells #[.pointer (some ⟨g,0,none⟩), .slice (some ⟨o,0,none⟩) n co] 146)).alloc (.cells #[] 3)).ownsRow (W.heap.size+1) 3 1 (.slice (some ⟨W.heap.size+1,0,none⟩) 0 0) 0 [] from ⟨rfl, .inr ⟨_,0,_,rfl,Zv _,hne,Zv _,by unfold maxLen;omega,rfl,rfl⟩⟩);have hrc:=reads_C (Mx.C_row hM1 hbi hrow 0 (by rw [HRL.out];omega));rw [List.drop_zero,HRL.out] at hrc;have HRC:=Za hrc;have HBX:=Za (bGz hbx (.cells #[] 3));have HM1:=Za hM1;have HF1:=Za (HF.out.alloc (.cells #[] 3));have HB1:=Za (HB.out.alloc (.cells #[] 3));have HSZ1:=Za (show ((W.alloc (.cells #[.pointer (some ⟨g,0,none⟩), .slice (some ⟨o,0,none⟩) n co] 146)).alloc (.cells #[] 3)).heap.size=W.heap.size+1+1 by simp);clear hw hF hx hS hM hSb hL hn hrow hbx hbi hM1 hne hrc HM HF HB
 go_enter Tryz.func158,Tryz.ntmps158
 go_wp2_with ((with_reducible refine aoz (b:= .append) (xs:= #[.tmp 9, .tmp 14]) rfl ?_);go_must (at_builtin;refine c4z (w0:=(W.alloc (.cells #[.pointer (some ⟨g,0,none⟩), .slice (some ⟨o,0,none⟩) n co] 146)).alloc (.cells #[] 3)) (W.heap.size+1) rfl (.tmp 9) (.tmp 14) 57 3 .i64 8 rfl Tryz.underlying57 kr_ (by decide) _ [] row (some ⟨bi,0,none⟩) L ci rfl rfl HO0.out HRC.out (Zw _ _) ?aS ?aL ?_;(case aS=>have:=HSZ1.out;omega);(case aL=>simp;omega));intro v2 w2 ho2 hb2 hg2 hat2;rw [List.nil_append] at ho2;obtain ⟨ru,rc,rfl⟩:=Kd.a3z (c6z ho2);rw [HRL.out];have HO2:=Za (c6z ho2);have HB2:=Za hb2;have HG2:=Za (show ((W.alloc (.cells #[.pointer (some ⟨g,0,none⟩), .slice (some ⟨o,0,none⟩) n co] 146)).alloc (.cells #[] 3)).grownBy w2 (some (W.heap.size+1)) from hg2);clear ho2 hb2 hg2 hat2)
 rw [HRL.out] at HO2;obtain ⟨w1,hw1⟩: ∃w1,(W.alloc (.cells #[.pointer (some ⟨g,0,none⟩), .slice (some ⟨o,0,none⟩) n co] 146)).alloc (.cells #[] 3)=w1:=⟨_,rfl⟩;rw [hw1] at HBX HM1 HF1 HB1 HSZ1 HB2 HG2 hb1 hco1;obtain ⟨fb,hfb⟩: ∃fb,fb=W.heap.size:=⟨_,rfl⟩;have HFB:=Za hfb;have hkeep: ∀q,q<W.heap.size+1->w2.heap[q]?=w1.heap[q]?:=fun q hq=>HG2.out.block q (by have:=HSZ1.out;omega) (fun e=>by cases e;omega)
 have HBX2:=Za ((hkeep W.heap.size (by omega)).trans HBX.out);have hlo:=HM1.out.lt_o;have HM2:=Za (show Mx w2 o bs rows from HM1.out.move (hkeep o (by have:=HOL.out;omega)) (fun q b c hq=>hkeep b (by have:=HS.out b (HX.out b (HSB.out q b c hq));omega)));have HF2:=Za (show Fd w2 g wb (fpoly wb) S from (Fd.grow HF1.out (fun q e=>by cases e;exact .inr (by omega)) HG2.out).thin (fun q _ hs=> .inl (.inl hs)));have HB3:=Za (show BS W w2 g S0 from ⟨HG2.out.os.trans HB1.out.os,HG2.out.tape.trans HB1.out.tape,HG2.out.output.trans HB1.out.output,Zt HB1.out.size HG2.out.size,fun q hq hg hs=>(hkeep q (by omega)).trans (HB1.out.block q hq hg hs)⟩);rw [<-hfb] at HBX2 HO2|-
 generalize (W.heap.size+1+1)=junk at *
 clear hkeep hlo hfb hb1 hco1 hw1 HM1 HF1 HB1 HB2 HG2 HBX HO0 HRC
 go_loopw [18] (fun jv wr=> ∃(j:Nat) (rows':List (List Int)),j<=L/\jv= .int .i64 (j:Int)/\Aside0 (cutF wb i (row.drop j) j rows'=R0)/\Aside0 (rows'.length=n/\ ∀r,r∈rows'->r.length=L)/\Aside0 (Mx wr o bs rows')/\Aside0 (Fd wr g wb (fpoly wb) S)/\Aside0 (BS W wr g S0)/\Aside0 (wr.heap[fb]?=some (.cells #[.pointer (some ⟨g,0,none⟩), .slice (some ⟨o,0,none⟩) n co] 146 (0,0)))/\Aside0 ((Kd.int .i64).R 3 wr (fb+1) (fun _=>True) (.slice ru L rc) row)) (fun jv _=>L - (intOf jv).toNat)
 case atStart=>exact ⟨0,rows,Nat.zero_le _,rfl,HR0,⟨HN.out,HL.out⟩,HM2,HF2,HB3,HBX2,HO2⟩
 clear HR0 HM2 HF2 HB3 HBX2 HO2;obtain ⟨wq,rfl⟩: ∃wq,wq=wr:=⟨_,rfl⟩;obtain ⟨j,rows',hj,rfl,HR,HLR,HM,HF,HB,HBX,HO⟩:=hrel;by_cases hlt:j<L
 ·obtain ⟨c,hc⟩: ∃c,row[j]?=some c:=⟨_,Zf (by have:=HRL.out;omega)⟩;obtain ⟨rad,rfl,hcj⟩:=cvz (Kd.aPz HO.out).2.2 j c hc;have hb1:wq.cell? ⟨fb,1,none⟩=some (.slice (some ⟨o,0,none⟩) n co):=(abz HBX.out 1).trans rfl
  have HR2:=Za (show cutF wb i (row.drop (j+1)) (j+1) (cutCol wb c i j rows')=R0 by
   obtain ⟨h1,h2⟩:=Zk hc;have h:=HR.out;rw [List.drop_eq_getElem_cons h1,h2,cutF] at h
   exact h)
  have j1:(0:Int)<=(j:Int):=by omega
  have j2:(j:Int)<(L:Int):=by omega
  have HM0:=Za (show Mx wq o bs (if j=i then rows' else cutTo wb c i j rows' 0) by rw [cutTo_zero,ite_self];exact HM.out);clear hc;go_wp2
  go_loopw [26] (fun kv w2=> ∃k:Nat,k<=n/\kv= .int .i64 (k:Int)/\Aside0 (Mx w2 o bs (if j=i then rows' else cutTo wb c i j rows' k))/\Aside0 (Fd w2 g wb (fpoly wb) S)/\Aside0 (BS W w2 g S0)/\Aside0 (w2.heap[fb]?=some (.cells #[.pointer (some ⟨g,0,none⟩), .slice (some ⟨o,0,none⟩) n co] 146 (0,0)))/\Aside0 ((Kd.int .i64).R 3 w2 (fb+1) (fun _=>True) (.slice (some rad) L rc) row)) (fun kv _=>n - (intOf kv).toNat)
  case atStart=>exact ⟨0,Nat.zero_le _,rfl,HM0,HF,HB,HBX,HO⟩
  clear HM0 HF HB HBX HO hb1 hcj HM;obtain ⟨w2,rfl⟩: ∃w2,w2=wr:=⟨_,rfl⟩;obtain ⟨k,hk,rfl,HM,HF,HB,HBX,HO⟩:=hrel;by_cases hlt2:k<n
  ·obtain ⟨x,hx⟩: ∃x,rows'[k]?=some x:=⟨_,Zf (by have:=HLR.out.1;omega)⟩
   have hat:(if j=i then rows' else cutTo wb c i j rows' k)[k]?=some x:=by
    split
    ·exact hx
    ·exact cutTo_at wb c i j rows' k x hx
   obtain ⟨⟨bi,ci⟩,hbi⟩: ∃q,bs[k]?=some q:=⟨_,Zf (by have h1:=HM.out.len;have h2:=(Zk hat).1;omega)⟩;have hxl:=HLR.out.2 x (Zo hx);have hok:w2.cell? ⟨o,k,none⟩=some (.slice (some ⟨bi,0,none⟩) L ci):=by rw [HM.out.cAz hbi hat,hxl]
   have k1:(0:Int)<=(k:Int):=by omega
   have k2:(k:Int)<(n:Int):=by omega
   by_cases hji:j=i
   ·have hjn:((j:Int) !=(i:Int))=false:=by simp [hji]
    have HM2:=Za (show Mx w2 o bs (if j=i then rows' else cutTo wb c i j rows' (k+1)) by have h:=HM.out;rw [Ya hji] at h|-;exact h);clear hx hat hbi hxl;go_wp2;go_roundw
    case rel=>exact ⟨k+1,by omega,by go_num,HM2,HF,HB,HBX,HO⟩
    case measure=>simp [intOf];omega
   ·have hjn:((j:Int) !=(i:Int))=true:=by simp;omega
    obtain ⟨y,hy⟩: ∃y,x[j]?=some y:=⟨_,Zf (by omega)⟩;obtain ⟨z,hz⟩: ∃z,x[i]?=some z:=⟨_,Zf (by omega)⟩;have hcy:w2.cell? ⟨bi,j,none⟩=some (.int .i64 y):=HM.out.cWz hbi hat hy;have hcz:w2.cell? ⟨bi,i,none⟩=some (.int .i64 z):=HM.out.cWz hbi hat hz;have hfi:=HM.out.froz_i hbi j;have hb0:w2.cell? ⟨fb,0,none⟩=some (.pointer (some ⟨g,0,none⟩)):=(abz HBX.out 0).trans rfl;obtain ⟨gcs,hgcs⟩:=Fd.cells HF.out;have hng:=HM.out.ne_g hgcs;have HNG:=Za hng;have HBI:=Za hbi;have HAT:=Za hat;have hbS:=HX.out _ (HSB.out _ _ _ hbi);have hblt:=HS.out _ hbS;have HBS:=Za hbS;have HFBI:=Za (show bi<fb by have:=HFB.out;omega)
    have HST:=Za (show (if j=i then rows' else cutTo wb c i j rows' k).set k (x.set j (Go.bits .xor .i64 y (gmul wb z c)))=(if j=i then rows' else cutTo wb c i j rows' (k+1)) by
     rw [Yb hji,Yb hji, <-cutTo_step wb c i j rows' k x hx];unfold cutRow
     rw [Zm,Zm,hy,hz];rfl)
    have HMU:=Za (cHz.calls g S wb z c w2.drew HW.out HF.out.drew (fun q hq=>Zp (HS.out q hq) HB.out.size));have hfg:fb≠g:=by have:=HFB.out;have:=HGL.out;omega
    have HFG:=Za hfg;have HCI:=Za (show∀w3,BB w2.drew w3 g->(w3.cell? ⟨fb,0,none⟩=some (.pointer (some ⟨g,0,none⟩))/\w3.cell? ⟨bi,j,none⟩=some (.int .i64 y)/\w3.cell? ⟨bi,i,none⟩=some (.int .i64 z))/\w3.frozen? ⟨bi,j,none⟩=false from fun w3 h=>⟨⟨cxz h (a:=w2.drew) hb0 hfg,cxz h (a:=w2.drew) hcy (hng.2 _ _ _ hbi),cxz h (a:=w2.drew) hcz (hng.2 _ _ _ hbi)⟩,froz_bb h (a:=w2.drew) (p:=⟨bi,j,none⟩) (HM.out.lt_i hbi) hfi (hng.2 _ _ _ hbi)⟩);have HR3:=Za (show∀w3,BB w2 w3 g->(Kd.int .i64).R 3 w3 (fb+1) (fun _=>True) (.slice (some rad) L rc) row from fun w3 hb3=>Kd.aSz (Kd.c2z (Kd.cRz HO.out hgcs (by decide)) (fun q hq hlt=>hb3.block q hlt hq.2)) (fun _ _=>trivial));have i3:(i:Int)<(L:Int):=by omega
    clear hx hat hbi hxl hy hz hfi hgcs hng hbS hblt hfg
    go_wp2_with fail
    refine bPz (n:=15) (S:=fun w'=>w'.cell? ⟨fb,0,none⟩=some (.pointer (some ⟨g,0,none⟩))/\w'.cell? ⟨bi,j,none⟩=some (.int .i64 y)/\w'.cell? ⟨bi,i,none⟩=some (.int .i64 z)) (ds:= [14]) (bA 15 0) kr_ rfl rfl ⟨hb0,hcy,hcz⟩ (fun hHeld=> ?_);refine pu_ 0 33 1 ?_;refine pu_ 1 34 3 ?_;refine pu_ 2 35 7 ?_;refine pu_ 4 37 23 ?_;refine pu_ 6 39 87 ?_;refine pu_ 7 40 215 ?_;refine pu_ 8 41 471 ?_;refine pu_ 10 43 1495 ?_;refine tk_ 3 36 1503 hHeld ?_;refine tk_ 5 38 1535 hHeld ?_;refine tk_ 9 42 2047 hHeld ?_;refine one_ (i:=11) (N:=some 44) (bA 15 4095) rfl rfl kr_ (by decide) (fun K hK=> ?_);refine goes_ Tryz.func103 kr_ rfl #[.pointer (some ⟨g,0,none⟩), .int .i64 z, .int .i64 c] (by rfl) rfl rfl am_ ?_
    with_reducible refine (HMU.out).mono ?_
    rintro e w3 ⟨rfl,q1,q2⟩;refine ⟨_,rfl,?_⟩;obtain ⟨⟨r1,r2,r3⟩,r4⟩:=HCI.out w3 q2;have Q1:=Za q1;have Q3:=Za (show BB w2 w3 g from ⟨q2.os,q2.tape,q2.output,q2.size,q2.block⟩);clear q1 q2;refine hK.out _ _ ⟨r1,r2,r3⟩ (fun hHeld=> ?_);clear hK K;refine norm_ (a':= ?_) ?_ ?_;rotate_left
    ·show Act.put _ (some 44) _=_;simp only [Act.put,Zg,Zh,Zi,i64_w,i32_w];rfl
    refine pu_ 12 45 8191 ?_;refine pu_ 13 46 16383 ?_;refine last_ (i:=14) (N:=none) (bA 15 32767) rfl rfl kr_ (by decide) (fun K hK=> ?_);refine skip_ (w1:= ?_) (by rfl) rfl ?_ ?_;rotate_left
    ·go_simp;rfl
    refine hK.out _ _ ?_;clear hK K;refine done_ kr_ ?_;have HM2:=Za ((HM.out.bb HNG.out Q3.out).set (j:=j) HBI.out HAT.out (Go.bits .xor .i64 y (gmul wb z c)));rw [HST.out] at HM2;have HF2:=Za (Q1.out.set (q:=⟨bi,j,none⟩) HBS.out (.int .i64 (Go.bits .xor .i64 y (gmul wb z c))));have HB2:=Za ((HB.out.trans (BS.of_bb Q3.out)).set (p:=⟨bi,j,none⟩) (.inl (HSB.out _ _ _ HBI.out)) (.int .i64 (Go.bits .xor .i64 y (gmul wb z c))));have HBX2:=Za (bFz ((Q3.out.block fb (a8z HBX.out) HFG.out).trans HBX.out) (show fb≠(⟨bi,j,none⟩:Addr).block from fun e=>by have:=HFBI.out;simp only at e;omega) (.int .i64 (Go.bits .xor .i64 y (gmul wb z c))));have HO3:=Za (Kd.aSz (Kd.ddz (w1:=w3.setCell ⟨bi,j,none⟩ (.int .i64 (Go.bits .xor .i64 y (gmul wb z c)))) (Kd.cmz (HR3.out w3 Q3.out)) (fun q hq=>Below.heap_setCell w3 ⟨bi,j,none⟩ _ q (fun e=>by have h1:=hq.2.1;have h2:=HFBI.out;simp only at e;omega))) (ok':=fun _=>True) (fun _ _=>trivial))
    go_wp2;go_roundw
    case rel=>exact ⟨k+1,by omega,by go_num,HM2,HF2,HB2,HBX2,HO3⟩
    case measure=>simp [intOf];omega
  ·obtain rfl:k=n:=by omega
   have HME:=Za (show Mx w2 o bs (cutCol wb c i j rows') by
    have h:=HM.out;unfold cutCol;by_cases hji:j=i
    ·rw [Ya hji] at h|-;exact h
    ·rw [Yb hji] at h|-;rw [<-HLR.out.1,cutTo_full] at h;exact h)
   have HLE:=Za (show (cutCol wb c i j rows').length=k/\ ∀r,r∈cutCol wb c i j rows'->r.length=L from ⟨(eKz HLR.out.2).2.trans HLR.out.1,(eKz HLR.out.2).1⟩);go_wp2;go_roundw
   case rel=>exact ⟨j+1,_,by omega,by go_num,HR2,HLE,HME,HF,HB,HBX,HO⟩
   case measure=>simp [intOf];omega
 ·obtain rfl:j=L:=by omega
  have HE:=Za (show Mx wq o bs R0 by
   have h:=HR.out;rw [List.drop_of_length_le (by rw [HRL.out];exact Zv _),cutF] at h
   rw [<-h];exact HM.out)
  go_wp2
  go_end0
  exact ⟨rfl,HE.out,HF.out,HB.out⟩
section
variable {F : Fence} {n : Nat} {P : Program}
def SeqH {α:Type} (F:Fence) (n:Nat) (P:Program) (g:Nat) (lb:Array Value) (encs:α->Array Value) (Hd:α->World->Prop) (Kp:World->World->Prop) (S:List α->Prop) (M:Nat) (w:World):Prop:=
 ∀(l:Nat) (J:List α->World->Prop) (W:World),Below w.heap.size w W->(∀s A B,J s A->A.grownBy B none->J s B)->
  (∀pre x W1,J pre W1->Hd x W1->pre.length<M->YieldAt F (n - 1) P l (encs x) W1 fun e W'=>e= .returned (.bool true)/\J (pre++ [x]) W'/\Kp W1 W')->
  J [] W->CallsIn F n P g (#[.func (.yield l) #[] #[]] ++lb) W fun e W'=>(∃v,e= .returned v)/\ ∃xs,S xs/\J xs W'
def plainPost {α:Type} (B:Nat) (Kp:World->World->Prop) (I:List α->World->Prop) (xs:List α) (W:World):Exit->Act->World->Prop
 | .normal,_,W'=>KeepsFrom B W W'/\Kp W W'/\I xs W'
 |_,_,_=>False
theorem fez {α : Type} {g : Operand} {ps : Array Tmp} {assign body : Code} {Q : Exit -> Act -> World -> Prop} {a : Act} {w : World}
  (hro:F.round=none) (h1:1<=n) {gf:Nat} {lb:Array Value} (hg:a.eval g= .func (.func gf) #[] lb) (hFg:F.fn gf) (eg: ∀args w,(callFunc gf args).run P w= .ok (.enter gf args) w)
  {encs:α->Array Value} {Hd:α->World->Prop} {Kp:World->World->Prop} {S:List α->Prop} {M:Nat} {w0:World} (hseq:SeqH F (n - 1) P gf lb encs Hd Kp S M w0)
  (hKt: ∀ {A B C:World},Kp A B->Kp B C->Kp A C) (hKb: ∀(W:World) (l:Nat) (o o':Obj),w.heap.size<=l->W.heap[l]?=some o->o.isCells=false->Kp W (W.putObj l o')) (hb0:Below w0.heap.size w0 w) (hps: ∀x,(encs x).size=ps.size)
  (I:List α->World->Prop) (hI:OwnFrom w.heap.size I) (hHd: ∀x,OwnFrom w.heap.size (fun (_:Unit) W=>Hd x W)) (h0:I [] w) (a₁:α->Act)
  (hassign: ∀(l:Nat) (x:α) (W:World) (K:Act->World->Prop),K (a₁ x) W->
   assign.wpIn (F.inRound l) (n - 1 - 1) P (Exit.then K (fun _ _ _=>False)) { tmps:=(ps.zip (encs x)).foldl (fun t (p,v)=>t.setIfInBounds p v) a.tmps,defers:= [] } W)
  (hbody: ∀(l:Nat) (pre:List α) (x:α) (W:World),I pre W->Hd x W->pre.length<M->body.wpIn (F.inRound l) (n - 1 - 1) P (plainPost w.heap.size Kp I (pre++ [x]) W) (a₁ x) W)
  (hdone: ∀(D:Nat) (xs:List α) (W:World),w.heap.size<=D->S xs->I xs W->W.heap[D]?=some (.deferred (some []))->Q .normal { a with defers:= { target:= .collected D,args:= #[] } ::a.defers } W):
  (Code.rangeFunc g ps assign body).wpIn F n P Q a w:=by
 refine wpIn_rangeFunc fun fn hfn=> ?_
 rw [hro];obtain ⟨L,hL⟩: ∃L:LoopState->Option Code->Loop,L=fun st pe=> { state:=st,pending:=pe,fn,tmps:=a.tmps,params:=ps,assign,body,defers:=w.heap.size } :=⟨_,rfl⟩
 obtain ⟨V,hV⟩: ∃V,(w.alloc (.deferred (some []))).alloc (.loop (L .ready none))=V:=⟨_,rfl⟩
 have vl:V.heap[w.heap.size+1]?=some (.loop (L .ready none)):=by
  rw [<-hV];have:=World.alloc_heap_new (w.alloc (.deferred (some []))) (.loop (L .ready none));rwa [World.size_alloc] at this
 have vd:V.heap[w.heap.size]?=some (.deferred (some [])):=by
  rw [<-hV];exact (Below.heap_alloc _ _ _ (by simp)).trans (World.alloc_heap_new w _)
 refine ⟨w.heap.size+1, [{ target:= .collected w.heap.size,args:= #[] }],V, { target:= .fn (.func gf) lb,args:= #[.func (.yield (w.heap.size+1)) #[] #[]] },V,gf,
  #[.func (.yield (w.heap.size + 1)) #[] #[]] ++ lb, V, by rw [<- hV, hL]; exact run_enterLoop_outer _ _ _ _ _, by simp only [resolve, hg]; simp [go_sem], ?_, by simp [invoke, go_sem, eg], fun _ => h1, ?_⟩
 ·intro f' hf';simp [Target.leads] at hf';subst hf';exact hFg
 refine (hseq (w.heap.size+1) (fun pre W=>(I pre W/\w.heap.size+1<W.heap.size)/\W.heap[w.heap.size+1]?=some (.loop (L .ready none))/\W.heap[w.heap.size]?=some (.deferred (some []))) V ?_ ?_ ?_ ?_).mono ?_
 ·rw [<-hV];exact hb0.trans ((((Zw _ w).alloc (Zv _) _).alloc (by simp) _).mono hb0.size)
 ·rintro s A B ⟨⟨i1,i2⟩,i3,i4⟩ hgr;exact ⟨⟨hI s A B none i1 hgr (fun r e=>by cases e),Zp i2 hgr.size⟩,(hgr.block _ i2 (by simp)).trans i3,(hgr.block _ (by omega) (by simp)).trans i4⟩
 ·rintro pre x W ⟨⟨i1,i2⟩,i3,i4⟩ hx hlen;have hy:=run_yield (P:=P) (args:=encs x) i3 (by rw [hL];exact hps x);rw [hL] at hy;refine ⟨fn,_,assign,body,hy,roundIn_of_wpIn hfn (hassign _ x W _ ?_)⟩;refine ⟨_,run_beginRound i3 (by rw [hL]),?_⟩;have l2:(W.putObj (w.heap.size+1) (.loop { L .ready none with state:= .busy })).heap[w.heap.size+1]?=some (.loop { L .ready none with state:= .busy }):=World.putObj_heap_same i2;have d2:(W.putObj (w.heap.size+1) (.loop { L .ready none with state:= .busy })).heap[w.heap.size]?=some (.deferred (some [])):=(World.putObj_heap_other (by omega)).trans i4;have k2:Kp W (W.putObj (w.heap.size+1) (.loop { L .ready none with state:= .busy })):=hKb _ _ _ _ (by omega) i3 rfl;refine wpIn_mono (hbody _ pre x _ (hI.putObj _ i1 (by omega) i3 rfl) ((hHd x).putObj (s:=()) _ hx (by omega) i3 rfl) hlen) ?_;rintro e a3 W3 hp
  cases e with
  |normal=>
   obtain ⟨q1,q2,q3⟩:=hp;have l3:=q1.same _ _ (by omega) l2 rfl;have d3:=q1.same _ _ (Zv _) d2 rfl;have hr:=run_endRound (P:=P) none l3;have hlt:=(Array.getElem?_eq_some_iff.1 l3).1;refine ⟨_,_,hr,rfl,⟨⟨hI.putObj _ q3 (by omega) l3 rfl,Zp hlt (grownBy_putObj' _ _ _).size⟩,?_,(World.putObj_heap_other (by omega)).trans d3⟩,hKt (hKt k2 q2) (hKb _ _ _ _ (by omega) l3 rfl)⟩;rw [World.putObj_heap_same hlt,hL];rfl
  |ret=>exact hp.elim
  |exit id=>exact hp.elim
  |goto t=>exact hp.elim
  |panic ch=>exact hp.elim
  |outgrown=>exact hp.elim
 ·refine ⟨⟨?_,?_⟩,vl,vd⟩
  ·rw [<-hV];exact hI.alloc _ (hI.alloc _ h0)
  ·rw [<-hV];simp
 ·rintro e W2 ⟨⟨v,rfl⟩,xs,hS,⟨i1,i2⟩,i3,i4⟩;exact ⟨none,_,by have:=run_endLoop (P:=P) i3 (by rw [hL];simp);rw [hL] at this;exact this,hdone _ xs _ (Zv _) hS (hI.putObj _ i1 (by omega) i3 rfl) ((World.putObj_heap_other (by omega)).trans i4)⟩
end
end Go.Proofs.Xc
end
section
namespace Go.Proofs.Xc
open Go.RowKit Go.Proofs.Pw Go.Proofs.Pl Go.Proofs.Pm
attribute [local go_sem] bcz bdz bpz bqz a4z a5z bez bfz
attribute [local go_sem] Oper.semAt_some
def colAt (rows:List (List Int)) (j:Nat):List Int:=rows.map (·.getD j 0)
def transp (rows:List (List Int)) (co:Nat):List (List Int):=(List.range co).map (colAt rows)
theorem dNz (rows:List (List Int)) (j:Nat):(colAt rows j).length=rows.length:=by simp [colAt]
theorem transp_take (rows:List (List Int)) (co k:Nat) (hk:k<co):(transp rows co).take (k+1)=(transp rows co).take k++ [colAt rows k] :=by
 rw [List.take_add_one];simp [transp,hk]
def KpX (N:Nat) (ex:Nat->Prop) (W W':World):Prop:=W.heap.size<=W'.heap.size/\ ∀k,k<N-> ¬ex k->W'.heap[k]?=W.heap[k]?
theorem KpX.trans {N:Nat} {ex:Nat->Prop} {A B C:World} (h:KpX N ex A B) (k:KpX N ex B C):KpX N ex A C:=⟨Zt h.1 k.1,fun i hi he=>(k.2 i hi he).trans (h.2 i hi he)⟩
def HdC (m:Nat) (x:List Int×Nat) (W:World):Prop:=x.1.length=m/\W.heap[x.2]?=some (.cells (nums .i64 x.1).toArray 3 (0,0))
def fillTo (col:List Int) (m j:Nat):List Int:=col.take j++List.replicate (m - j) 0
theorem fillTo_set (col:List Int) (m j:Nat) (x:Int) (hc:col.length=m) (hj:j<m) (hx:col[j]?=some x):(fillTo col m j).set j x=fillTo col m (j+1):=by
 unfold fillTo;rw [List.set_append_right _ _ (by simp;omega),List.length_take,hc,Nat.min_eq_left (by omega),Nat.sub_self,show m - j=(m - (j+1))+1 by omega,List.replicate_succ,Zh,List.take_add_one,hx,List.append_assoc];rfl
theorem fillTo_at (col:List Int) (m j:Nat) (hc:col.length=m) (hj:j<m):(fillTo col m j)[j]?=some 0:=by
 unfold fillTo;rw [List.getElem?_append_right (by simp;omega),List.length_take,hc,Nat.min_eq_left (by omega),Nat.sub_self,List.getElem?_replicate];simp;omega
theorem dWz (k:IntKind) (l:List Int) (j:Nat) (x:Int) (h:l[j]?=some x):(nums k l).toArray[j]?=some (.int k x):=by
 simp [nums,h]
theorem eGz (n:Nat) (hn:n<=1000000) (W:World):(Instr.makeSlice 57 (.int .i64 (n:Int)) (.int .i64 (n:Int))).run Tryz.prog W= .ok (.slice (some ⟨W.heap.size,0,none⟩) n n) (W.alloc (.cells (nums .i64 (List.replicate n 0)).toArray 3)):=by
 obtain ⟨i,hi,he⟩:=Option.map_eq_some_iff.1 info3;injection he with hz he
 injection he with hs hb
 have h:=run_make (P:=Tryz.prog) W 57 3 i (.int .i64 0) Tryz.underlying57 hi hz .i64 .i64 n n (by omega) (by omega) (by rw [hb];omega) (by omega);rw [hs,Zu,Nat.mul_one] at h;rw [h]
 have:madeCells (Value.int .i64 0).cells n=(nums .i64 (List.replicate n 0)).toArray:=by
  apply Array.ext'
  simp [madeCells,nums,Value.cells];apply List.ext_getElem
  ·simp
  ·intro i h1 h2;simp [Nat.mod_one]
 rw [this]
theorem columns1_in (l Bn N co c : Nat) (ex : Nat -> Prop) (A : Option Addr) (rows : List (List Int)) (W0 W : World) (J : List (List Int × Nat) -> World -> Prop)
  (hF:Kd.F (dM 3 .i64) W0 (fun k=> ¬ex k) A rows.length rows) (hN:W0.heap.size<=N) (hNW:N<=W.heap.size) (h0:KpX N ex W0 W) (hm1:1<=rows.length) (hm:rows.length<=1000) (hL: ∀r,r∈rows->r.length=co) (hco:co<=1000)
  (hB:W.heap[Bn]?=some (.cells #[.slice A rows.length c] 69 (0,0))) (hBn:Bn<N) (hBe: ¬ex Bn) (hJ: ∀s X Y,J s X->X.grownBy Y none->J s Y)
  (hY: ∀pre x W1,J pre W1->HdC rows.length x W1->pre.length<co->YieldAt Fence.wide (7 - 1) Tryz.prog l #[.slice (some ⟨x.2,0,none⟩) x.1.length x.1.length] W1 fun e W'=>e= .returned (.bool true)/\J (pre++ [x]) W'/\KpX N ex W1 W') (hJ0:J [] W):
  CallsIn Fence.wide 7 Tryz.prog 196 #[.func (.yield l) #[] #[], .pointer (some ⟨Bn,0,none⟩)] W fun e W'=>(∃v,e= .returned v)/\ ∃xs:List (List Int×Nat),xs.map Prod.fst=transp rows co/\J xs W':=by
 obtain ⟨r0,hr0⟩: ∃r,rows[0]?=some r:=⟨_,Zf (by omega)⟩;have HC: ∀W',KpX N ex W0 W'->Kd.C (dM 3 .i64) W' A rows.length rows:=fun W' hk=>hF W' (fun k hk1 hk2=>hk.2 k (by omega) hk1)
 have HB: ∀W',KpX N ex W W'->W'.heap[Bn]?=some (.cells #[.slice A rows.length c] 69 (0,0)):=fun W' hk=>(hk.2 Bn hBn hBe).trans hB
 obtain ⟨ad,A1,c1,rfl,hcell,hle, -⟩:=cqz (HC W h0) 0 r0 hr0;rw [d5z,hL r0 (Zo hr0)] at hcell;have hbc:W.cell? ⟨Bn,0,none⟩=some (.slice (some ad) rows.length c):=(abz hB 0).trans rfl;have n1:(0:Int)<(rows.length:Int):=by omega
 have HC:=Za HC;have HB:=Za HB;have H0:=Za h0;have HL:=Za hL;have HJ:=Za hJ;have HY:=Za hY;have HJ0:=Za hJ0;have HBL:=Za (a8z hB);have HNW:=Za hNW;clear hNW;clear hF hr0 hle h0 hL hJ hY hJ0 hB;obtain ⟨m,hm'⟩: ∃m,m=rows.length:=⟨_,rfl⟩;have HML:=Za hm';rw [<-hm'] at hm1 hm hbc n1;clear hm';refine callsIn_of_wp Tryz.func196 rfl trivial ?_ rfl;simp only [Tryz.ntmps196,List.size_toArray,List.length_cons,List.length_nil,Nat.reduceAdd,Nat.reduceSub,Array.replicate_succ,Array.replicate_zero,List.push_toArray,List.append_toArray,List.nil_append,List.cons_append]
 gi_wp2
 gi_loopw [10] (fun i wr=> ∃(k:Nat) (pre:List (List Int×Nat)),k<=co/\i= .int .i64 (k:Int)/\Aside0 (pre.map Prod.fst=(transp rows co).take k)/\Aside0 (J pre wr)/\Aside0 (KpX N ex W wr)) (fun i _=>co - (intOf i).toNat)
 case atStart=>exact ⟨0, [],Nat.zero_le _,rfl,⟨rfl⟩,HJ0,⟨Zv _,fun _ _ _=>rfl⟩⟩
 clear HJ0 hcell hbc;obtain ⟨wq,rfl⟩: ∃wq,wq=wr:=⟨_,rfl⟩;obtain ⟨k,pre,hk,rfl,HP,HJP,HK⟩:=hrel;have hbc:wq.cell? ⟨Bn,0,none⟩=some (.slice (some ad) m c):=by rw [HML.out];exact (abz (HB.out _ HK.out) 0).trans rfl
 by_cases hlt:k<co
 ·have hmk:=eGz m (by omega);have HSZ:=Za (show W.heap.size<=wq.heap.size from HK.out.1);have hbc2:(wq.alloc (.cells (nums .i64 (List.replicate m 0)).toArray 3)).cell? ⟨Bn,0,none⟩=some (.slice (some ad) m c):=(World.cell?_alloc_past _ _ _ (Zj _ _ hbc)).trans hbc
  have HN0:=Za (show (wq.alloc (.cells (nums .i64 (List.replicate m 0)).toArray 3)).heap[wq.heap.size]?=some (.cells (nums .i64 (fillTo (colAt rows k) m 0)).toArray 3 (0,0)) by
   rw [heap_alloc_new];simp [fillTo])
  gi_wp2
  have HBW:=Za (show Below wq.heap.size wq (wq.alloc (.cells (nums .i64 (List.replicate m 0)).toArray 3)) from anz (Zw _ _) _);generalize wq.alloc (.cells (nums .i64 (List.replicate m 0)).toArray 3)=w1 at HN0 HBW|-;obtain ⟨cb,hcb⟩: ∃cb,cb=wq.heap.size:=⟨_,rfl⟩;have HCB:=Za hcb;rw [<-hcb] at HN0|-;clear hcb hbc2 hmk hbc
  gi_loopw [18] (fun i w2=> ∃j:Nat,j<=m/\i= .int .i64 (j:Int)/\Aside0 (w2.heap[cb]?=some (.cells (nums .i64 (fillTo (colAt rows k) m j)).toArray 3 (0,0)))/\Aside0 (Below wq.heap.size wq w2)) (fun i _=>m - (intOf i).toNat)
  case atStart=>exact ⟨0,Nat.zero_le _,rfl,HN0,HBW⟩
  obtain ⟨w2,rfl⟩: ∃w2,w2=wr:=⟨_,rfl⟩;clear HN0 HBW;obtain ⟨j,hj,rfl,HN2,HB2⟩:=hrel;have HK2:=Za (show KpX N ex W w2 from HK.out.trans ⟨HB2.out.size,fun i hi _=>HB2.out.block i (by have:=HSZ.out;have:=HNW.out;omega)⟩);have hbc:w2.cell? ⟨Bn,0,none⟩=some (.slice (some ad) m c):=by rw [HML.out];exact (abz (HB.out _ HK2.out) 0).trans rfl
  by_cases hjl:j<m
  ·obtain ⟨r,hr⟩: ∃r,rows[j]?=some r:=⟨_,Zf (by have:=HML.out;omega)⟩;obtain ⟨ad',A',c',ha',hcell,hle,hC'⟩:=cqz (HC.out w2 (H0.out.trans HK2.out)) j r hr;obtain rfl:ad=ad':=Zn ha';have hrl:=HL.out r (Zo hr);obtain ⟨x,hx⟩: ∃x,r[k]?=some x:=⟨_,Zf (by omega)⟩;obtain ⟨bd,rfl,hcx⟩:=cvz hC' k x hx;rw [hrl] at hcell;have hcol:(colAt rows k)[j]?=some x:=by simp [colAt,hr,Zm,hx]
   have hcb1:w2.cell? ⟨cb,j,none⟩=some (.int .i64 0):=(abz HN2.out j).trans (dWz _ _ _ _ (fillTo_at _ _ _ (by rw [dNz,HML.out]) hjl));have hcf:=bnz HN2.out j;have HN3:=Za (show (w2.setCell ⟨cb,j,none⟩ (.int .i64 x)).heap[cb]?=some (.cells (nums .i64 (fillTo (colAt rows k) m (j+1))).toArray 3 (0,0)) from dzz HN2.out j x (fillTo_set _ _ _ _ (by rw [dNz,HML.out]) hjl hcol));have HB3:=Za (show Below wq.heap.size wq (w2.setCell ⟨cb,j,none⟩ (.int .i64 x)) from HB2.out.setCell (p:=⟨cb,j,none⟩) (by rw [<-HCB.out];exact Zv _) _);have i1:(0:Int)<=(j:Int):=by omega
   have i2:(j:Int)<(m:Int):=by omega
   have i3:(0:Int)<=(k:Int):=by omega
   have i4:(k:Int)<(co:Int):=by omega
   clear hr ha' hle hC' hrl hx hcol
   gi_wp2
   go_roundw
   case rel=>exact ⟨j+1,by omega,by go_num,HN3,HB3⟩
   case measure=>simp [intOf];omega
  ·obtain rfl:j=m:=by omega
   have hcl:(colAt rows k).length=j:=by rw [dNz,HML.out]
   have hfc:fillTo (colAt rows k) j j=colAt rows k:=by unfold fillTo;rw [<-hcl,List.take_length,Nat.sub_self];simp
   have hHd:HdC rows.length (colAt rows k,cb) w2:=by have:=HN2.out;rw [hfc] at this;exact ⟨dNz _ _,this⟩
   have hJ2:J pre w2:=HJ.out _ wq w2 HJP.out ⟨HB2.out.os,HB2.out.tape,HB2.out.output,HB2.out.size,fun i hi _=>HB2.out.block i hi⟩;obtain ⟨fn,tmps,assign,body,hy,hR⟩:=HY.out pre (colAt rows k,cb) w2 hJ2 hHd (by have:=congrArg List.length HP.out;simp [transp] at this;omega);dsimp only at hy;rw [hcl] at hy;have HRR:=Za hR;clear hR hHd hfc hcl hJ2 hbc
   gi_wp2
   refine HRR.out.mono ?_;rintro e w3 ⟨rfl,hJ3,hk3⟩;have HJ3:=Za hJ3;have HK3:=Za hk3;clear hy hJ3 hk3
   gi_wp2
   go_roundw
   case rel=>exact ⟨k+1,pre++ [(colAt rows k,cb)],by omega,by go_num,⟨by rw [transp_take rows co k hlt,List.map_append,HP.out];rfl⟩,HJ3,⟨HK2.out.trans HK3.out⟩⟩
   case measure=>simp [intOf];omega
 ·obtain rfl:k=co:=by omega
  gi_wp2
  go_end0
  exact ⟨⟨_,rfl⟩,pre,by rw [HP.out,List.take_of_length_le (by simp [transp])],HJP.out⟩
theorem columns.calls (A:Option Addr) (m c:Nat) (W:World):Calls Tryz.prog 184 #[.slice A m c] W fun e w'=>e= .returned (.func (.func 196) #[] #[.pointer (some ⟨W.heap.size,0,none⟩)])/\w'=W.alloc (.cells #[.slice A m c] 69):=by
 have hmf: ∀(fn:Fn) (first cap:Array Value) (w:World),(Instr.makeFunc fn first cap).run Tryz.prog w= .ok (.func fn first cap) w:=fun _ _ _ _=>rfl
 go_enter Tryz.func184,Tryz.ntmps184;go_wp2;go_ret;exact ⟨rfl,rfl⟩
theorem columns_seq (Bn N co c : Nat) (ex : Nat -> Prop) (A : Option Addr) (rows : List (List Int)) (W0 w : World)
  (hF:Kd.F (dM 3 .i64) W0 (fun k=> ¬ex k) A rows.length rows) (hN:W0.heap.size<=N) (hNW:N<=w.heap.size) (h0:KpX N ex W0 w) (hm1:1<=rows.length) (hm:rows.length<=1000) (hL: ∀r,r∈rows->r.length=co) (hco:co<=1000)
  (hB:w.heap[Bn]?=some (.cells #[.slice A rows.length c] 69 (0,0))) (hBn:Bn<N) (hBe: ¬ex Bn):
  SeqH Fence.wide 7 Tryz.prog 196 #[.pointer (some ⟨Bn,0,none⟩)] (fun x:List Int×Nat=> #[.slice (some ⟨x.2,0,none⟩) x.1.length x.1.length]) (HdC rows.length) (KpX N ex) (fun xs=>xs.map Prod.fst=transp rows co) co w:=by
 intro l J W hW hJ hY hJ0;have hk:KpX N ex w W:=⟨hW.size,fun k hk _=>hW.block k (by omega)⟩;exact columns1_in l Bn N co c ex A rows W0 W J hF hN (Zt hNW hW.size) (h0.trans hk) hm1 hm hL hco ((hk.2 Bn hBn hBe).trans hB) hBn hBe hJ hY hJ0
end Go.Proofs.Xc
end
section
namespace Go.Proofs.Xc
open Go.RowKit Go.Proofs.Pw Go.Proofs.Pl Go.Proofs.Pm
attribute [local go_sem] bcz bdz bpz bqz a4z a5z bez bfz
theorem S_join2 {wq w2 : World} {g B e t gt : Nat} {gcs : Array Value} {Own : Nat -> Prop} {u uv : Value} {xs : List (List Int)} {R : List Int} (HO : Kd.S (dM e .i64) t wq B Own u xs) (hlt : ∀ q, Own q -> q < wq.heap.size) (hg : wq.heap[g]? = some (.cells gcs gt (0, 0))) (ht : ∀ q, q ∈ t :: (dM e .i64).E -> q ≠ gt) (hb : BB wq w2 g) (hR : (Kd.int .i64).R e w2 wq.heap.size (fun _ => True) uv R) (hB : B <= wq.heap.size) :
  Kd.S (dM e .i64) t w2 B (fun k'=>(Own k'\/some k'=uv.ownBlock\/w2.heap.size<=k')/\ ¬some k'=uv.ownBlock) u xs/\(dM e .i64).M w2 B (fun k'=>some k'=uv.ownBlock) R [uv] /\(∀k',some k'=uv.ownBlock->(Own k'\/some k'=uv.ownBlock\/w2.heap.size<=k')/\some k'≠u.ownBlock):=by
 have hub: ∀q,some q=uv.ownBlock->wq.heap.size<=q:=fun q e=>Kd.ciz hR q e.symm
 refine ⟨Kd.cOz (Kd.S_move (Kd.bVz (Kd.dRz HO hg ht)) (fun q hq=>hb.block q hq.2.2.1 hq.1.2)) (fun q hq=>⟨.inl hq.1.1,fun e=>by have:=hub q e;have:=hq.2.2.1;omega⟩),⟨_,rfl,Kd.bAz (Kd.cgz rfl hR) hB⟩,fun q e=>⟨.inr (.inl e),fun e2=> ?_⟩⟩;have h1:=hub q e;have h2:=Kd.R_lt (Kd.S_R HO) q e2.symm;omega
theorem Fd.joined {w2 w4 : World} {g : Nat} {wb p : Int} {S Own : Nat -> Prop} {u uv : Value} (h : Fd w2 g wb p (fun q => (S q \/ Own q) \/ some q = uv.ownBlock)) (hu : ∀ q, u.ownBlock = some q -> Own q) (hg : w2.grownBy w4 u.ownBlock) :
  Fd w4 g wb p (fun q=>S q\/((Own q\/some q=uv.ownBlock\/w2.heap.size<=q)/\q<w4.heap.size)):=by
 refine (Fd.grow h (fun q e=> .inl (.inr (hu q e))) hg).thin (fun q hq hs=> ?_);rcases hs with hs|⟨hs|hs|hs, -⟩
 ·exact .inl (.inl (.inl hs))
 ·exact .inl (.inl (.inr hs))
 ·exact .inl (.inr hs)
 ·exact .inr hs
def lastU (k:Nat):List Int:=(List.replicate k 0).set (k - 1) 1
def extM (wb:Int) (k m:Nat):List (List Int):=madeF (fun (i j:Nat)=>gpow wb (i:Int) (j:Int)) (k+m - 1) k++ [lastU k]
theorem Extended.calls (g : Nat) (wb : Int) (S : Nat -> Prop) (k0 m0 : Nat) (W : World) (hw : wb = 8 \/ wb = 16) (hF : Fd W g wb (fpoly wb) S) (hS : ∀ k, S k -> k < W.heap.size) (h1 : 1 <= k0) (h2 : 1 <= m0) (h3 : k0 <= 8) (h4 : m0 <= 4) :
  Calls Tryz.prog 112 #[.pointer (some ⟨g,0,none⟩), .int .i64 (k0:Int), .int .i64 (m0:Int)] W fun e w'=> ∃v, ∃Own:Nat->Prop,e= .returned (.tuple #[v, .int .i64 0])/\Kd.S (dM 3 .i64) 57 w' W.heap.size Own v (extM wb k0 m0)/\Fd w' g wb (fpoly wb) (fun q=>S q\/Own q)/\(∀q,Own q->q<w'.heap.size)/\BB W w' g:=by
 have HW:=Za hw;have HS:=Za hS;have HF:=Za (show Fd W g wb (fpoly wb) (fun q=>S q\/(fun _=>False) q) from hF.thin (fun q _ hs=>hs.elim id (fun e=>e.elim)));have e1: ¬(k0:Int)<1:=by omega
 have e2: ¬(m0:Int)<1:=by omega
 have e3: ¬(20:Int)<=(k0:Int):=by omega
 have e4: ¬(20:Int)<=(m0:Int):=by omega
 have e5:wrap64 ((k0:Int)+(m0:Int))=(k0:Int)+(m0:Int):=by unfold wrap64;omega
 have e6: ¬(20:Int)<(k0:Int)+(m0:Int):=by omega
 obtain ⟨rows,hrows⟩: ∃rows,k0+m0 - 1=rows:=⟨_,rfl⟩;have e7:wrap64 ((k0:Int)+(m0:Int) - 1)=(rows:Int):=by unfold wrap64;omega
 have e9:(k0:Int)+(m0:Int) - 1=(rows:Int):=by omega
 have hr:rows<=100:=by omega
 obtain ⟨tf,htf⟩: ∃tf:Nat->Nat->Int,(fun (i j:Nat)=>gpow wb (i:Int) (j:Int))=tf:=⟨_,rfl⟩;have HX:=Za (show extM wb k0 m0=madeF tf rows k0++ [lastU k0] by unfold extM;rw [htf,hrows]);generalize extM wb k0 m0=res at HX|-
 have HT:=Za (show∀(i j:Nat) (S':Nat->Prop) (w:World),Fd w g wb (fpoly wb) S'->(∀k,S' k->k<w.heap.size)->j<=100->Calls Tryz.prog 122 #[.pointer (some ⟨g,0,none⟩), .int .i64 (i:Int), .int .i64 (j:Int)] w fun e w'=>e= .returned (.int .i64 (tf i j))/\Fd w' g wb (fpoly wb) S'/\BB w w' g by
  intro i j S' w h1 h2 h3;subst htf
  exact gf_Pow.calls g S' wb (i:Int) j w (by omega) hw h1 h2)
 clear hw hF hS htf hrows;go_enter Tryz.func112,Tryz.ntmps112;go_wp2;have E1:=Za h1;have E3:=Za h3;clear e1 e2 e3 e4 e5 e6 e7 e9 h2 h4
 go_loopw [8,41] (fun v i wr=> ∃(k:Nat) (Own:Nat->Prop),k<=rows/\i= .int .i64 (k:Int)/\Aside0 (Kd.S (dM 3 .i64) 57 wr W.heap.size Own v (madeF tf k k0))/\Aside0 (Fd wr g wb (fpoly wb) (fun q=>S q\/Own q))/\Aside0 (∀q,Own q->q<wr.heap.size)/\Aside0 (BB W wr g)) (fun _ i _=>rows - (intOf i).toNat)
 case atStart=>exact ⟨0,fun _=>False,Nat.zero_le _,rfl,⟨Kd.S_nil _ _ _ _ _⟩,HF,⟨fun _ h=>h.elim⟩,⟨BB.refl _ _⟩⟩
 clear HF;obtain ⟨wq,rfl⟩: ∃wq,wq=wr:=⟨_,rfl⟩;obtain ⟨k,Own,hk,rfl,HO,HF,HOW,HBB⟩:=hrel;by_cases hlt:k<rows
 ·have HF2:=Za (show Fd wq g wb (fpoly wb) (fun q=>(S q\/Own q)\/some q=(Value.slice none 0 0).ownBlock) from HF.out.thin (fun q _ hs=>hs.elim id (fun e=>by simp [Value.ownBlock] at e)));go_wp2
  go_loopw [10,45] (fun u j w2=> ∃n:Nat,n<=k0/\j= .int .i64 (n:Int)/\Aside0 ((Kd.int .i64).R 3 w2 wq.heap.size (fun _=>True) u ((List.range n).map (tf k)))/\Aside0 (Fd w2 g wb (fpoly wb) (fun q=>(S q\/Own q)\/some q=u.ownBlock))/\Aside0 (BB wq w2 g)) (fun _ j _=>k0 - (intOf j).toNat)
  case atStart=>exact ⟨0,Nat.zero_le _,rfl,⟨Kd.R_nil _ _ _ _ _⟩,HF2,⟨BB.refl _ _⟩⟩
  clear HF2;obtain ⟨w2,rfl⟩: ∃w2,w2=wr:=⟨_,rfl⟩;obtain ⟨n,hn,rfl,HR,HF2,HB2⟩:=hrel;by_cases hlt2:n<k0
  ·have hSS : ∀ q, ((S q \/ Own q) \/ some q = u10.ownBlock) -> q < w2.heap.size := by
    have s1:=HB2.out.size;have s2:=HBB.out.size;rintro q ((h|h)|h)
    ·have:=HS.out q h;omega
    ·have:=HOW.out q h;omega
    ·exact Kd.R_lt HR.out q h.symm
   have HTC:=Za (HT.out k n _ w2 HF2.out hSS (by have:=E3.out;omega));have HSZ:=Za (show wq.heap.size<=w2.heap.size from HB2.out.size);obtain ⟨gcs,hgcs⟩:=Fd.cells HF2.out;have HR3:=Za (show∀w3,BB w2 w3 g->(Kd.int .i64).R 3 w3 wq.heap.size (fun _=>True) u10 ((List.range n).map (tf k)) from fun w3 hb3=>Kd.aSz (Kd.c2z (Kd.cRz HR.out hgcs (by decide)) (fun q hq hlt=>hb3.block q hlt hq.2)) (fun _ _=>trivial));have HLL:=Za (show ((List.range n).map (tf k)).length<=100 by have:=E3.out;simp;omega);have HRS:=Za (dVz (tf k) n);generalize (List.range n).map (tf k)=pre at HR HR3 HLL HRS;generalize tf k n=z at HTC HRS;clear hSS hgcs
   go_wp2_with fail
   refine HTC.out.mono ?_;rintro e w3 ⟨rfl,q1,q2⟩;have HR4:=Za (HR3.out w3 q2);have HF3:=Za q1;have HB3:=Za (HB2.out.trans q2);have HZ3:=Za (Zt HSZ.out q2.size);clear q1 q2 HTC HR3
   go_wp2_with ((with_reducible refine aoz (b:= .append) (xs:= #[.tmp 48, .tmp 53]) rfl ?_);go_must (at_builtin;refine Kd.bmz (Kd.int .i64) (w0:=w3) wq.heap.size rfl (.tmp 48) (.tmp 53) 57 3 (.int .i64 0) 8 rfl Tryz.underlying57 kr_ rfl (by decide) (by decide) _ _ z [.int .i64 z] (fun _=>True) (fun _=>False) rfl rfl rfl (fun _ h=>h.elim) (fun _ _=>trivial) HR4.out (Zw _ _) HZ3.out ?aL ?_;(case aL=>have:=HLL.out;omega));intro v2 w4 ho2 hb2 hg2 hat2;have HO2:=Za ho2;have HB4:=Za hb2;have HG2:=Za (show w3.grownBy w4 u10.ownBlock from hg2);have HA2:=Za (show v2.ownBlock=u10.ownBlock\/ ∃b,v2.ownBlock=some b/\w3.heap.size<=b from hat2);clear ho2 hb2 hg2 hat2)
   go_roundw
   case rel=>exact ⟨n+1,by omega,by go_num,⟨by rw [HRS.out];exact HO2.out⟩,⟨Fd.appended HF3.out HG2.out HA2.out⟩,⟨HB3.out.os▸HB4.out.os,HB3.out.tape▸HB4.out.tape,HB3.out.output▸HB4.out.output,Zt HB3.out.size HB4.out.size,fun i hi hg=>(HB4.out.block i hi).trans (HB3.out.block i hi hg)⟩⟩
   case measure=>simp [intOf];omega
  ·obtain rfl:n=k0:=by omega
   obtain ⟨gcs,hgcs⟩:=Fd.cells HF.out;have hj:=S_join2 HO.out HOW.out hgcs (by decide) HB2.out HR.out HBB.out.size;have HLZ:=Za (show (madeF tf k n).length<=1000 by simp [madeF];omega);obtain ⟨va,vc,rfl⟩:=Kd.a3z HR.out;have HMS:=Za (eRz tf k n)
   generalize ((List.range n).map (tf k)).length=nn at *
   generalize (List.range n).map (tf k)=R at hj HMS;have HS1:=Za hj.1;have HM1:=Za hj.2.1;have HOK:=Za hj.2.2;have HSW:=Za (show W.heap.size<=w2.heap.size from Zt HBB.out.size HB2.out.size);have HF5:=Za HF2.out;have HUO:=Za HO.out.choose_spec.1;clear hj hgcs HF2 HR
   go_wp2_with ((with_reducible refine aoz (b:= .append) (xs:= #[.tmp 56, .tmp 58]) rfl ?_);go_must (at_builtin;refine Kd.b2z (dM 3 .i64) (w0:=w2) W.heap.size rfl (.tmp 56) (.tmp 58) 69 57 (.slice none 0 0) 24 rfl Tryz.underlying69 kr_ rfl (by decide) (by decide) _ _ R [.slice va nn vc] _ _ rfl rfl HM1.out HOK.out (fun _ h=> .inr (.inr h)) HS1.out (Zw _ _) HSW.out ?aL ?_;(case aL=>have:=HLZ.out;omega));intro v2 w4 ho2 hb2 hg2 hat2;have HO2:=Za ho2;have HB4:=Za hb2;have HG2:=Za (show w2.grownBy w4 u8.ownBlock from hg2);have HA2:=Za (show v2.ownBlock=u8.ownBlock\/ ∃b,v2.ownBlock=some b/\w2.heap.size<=b from hat2);clear ho2 hb2 hg2 hat2)
   go_roundw
   case rel=>exact ⟨k+1,_,by omega,by go_num,⟨by rw [HMS.out];exact Kd.cOz (Kd.bVz HO2.out) (fun q hq=>⟨hq.1,hq.2.2.1⟩)⟩,⟨Fd.joined HF5.out HUO.out HG2.out⟩,⟨fun q hq=>hq.2⟩,⟨⟨HB4.out.os.trans (HB2.out.os.trans HBB.out.os),HB4.out.tape.trans (HB2.out.tape.trans HBB.out.tape),HB4.out.output.trans (HB2.out.output.trans HBB.out.output),Zt HSW.out HB4.out.size,fun i hi hg=>(HB4.out.block i hi).trans ((HB2.out.block i (Zp hi HBB.out.size) hg).trans (HBB.out.block i hi hg))⟩⟩⟩
   case measure=>simp [intOf];omega
 ·obtain rfl:k=rows:=by omega
  have HZ:=Za HO.out;have hmk:=eGz k0 (by omega);have e8:wrap64 ((k0:Int) - 1)=((k0 - 1:Nat):Int):=by unfold wrap64;omega
  have i1:(0:Int)<=((k0 - 1:Nat):Int):=by omega
  have i2:((k0 - 1:Nat):Int)<(k0:Int):=by omega
  have hnb:(wq.alloc (.cells (nums .i64 (List.replicate k0 0)).toArray 3)).heap[wq.heap.size]?=some (.cells (nums .i64 (List.replicate k0 0)).toArray 3 (0,0)):=heap_alloc_new _ _;have hcb:(wq.alloc (.cells (nums .i64 (List.replicate k0 0)).toArray 3)).cell? ⟨wq.heap.size,k0 - 1,none⟩=some (.int .i64 0):=(abz hnb _).trans (dWz .i64 _ _ 0 (by rw [List.getElem?_replicate];simp;omega));have hfb:=bnz hnb (k0 - 1);obtain ⟨w5,hw5⟩: ∃w5,wq.alloc (.cells ((nums .i64 (List.replicate k0 0)).set (k0 - 1) (.int .i64 1)).toArray 3)=w5:=⟨_,rfl⟩
  have hn0:w5.heap[wq.heap.size]?=some (.cells (nums .i64 (lastU k0)).toArray 3 (0,0)):=by
   rw [<-hw5,heap_alloc_new];simp [lastU,nums,List.map_set]
  have hB5:Below wq.heap.size wq w5:=by rw [<-hw5];exact anz (Zw _ _) _
  have hlen:(lastU k0).length=k0:=by simp [lastU]
  have hR5:(Kd.int .i64).R 3 w5 wq.heap.size (fun _=>True) (.slice (some ⟨wq.heap.size,0,none⟩) k0 k0) (lastU k0):=
   c6z ⟨by rw [nums_length,Nat.mul_one], .inr ⟨_,k0,_,by rw [hlen],Zv _,hn0,by rw [hlen];exact Zv _,by unfold maxLen;omega,by simp [nums_length,hlen],by rw [hlen];simp;rw [List.take_of_length_le (by rw [nums_length,hlen];exact Zv _)]⟩⟩
  obtain ⟨gcs,hgcs⟩:=Fd.cells HF.out;have hj:=S_join2 HO.out HOW.out hgcs (by decide) (BB.of_below hB5 g) hR5 HBB.out.size;have HLZ:=Za (show (madeF tf k k0).length<=1000 by simp [madeF];omega);have HS1:=Za hj.1;have HM1:=Za hj.2.1;have HOK:=Za hj.2.2;have HSW:=Za (show W.heap.size<=w5.heap.size from Zt HBB.out.size hB5.size);have HB5:=Za hB5;have HF5:=Za (show Fd w5 g wb (fpoly wb) (fun q=>(S q\/Own q)\/some q=(Value.slice (some ⟨wq.heap.size,0,none⟩) k0 k0).ownBlock) from ((HF.out.more).below hB5).thin (fun q _ hs=>hs.elim .inl (fun e=> .inr (by simp [Value.ownBlock] at e;omega))));have HUO:=Za HO.out.choose_spec.1;clear hnb hj hgcs hR5 hn0 hlen hB5 HZ
  go_wp2_with ((with_reducible refine aoz (b:= .append) (xs:= #[.tmp 67, .tmp 69]) rfl ?_);go_must (at_builtin;refine Kd.b2z (dM 3 .i64) (w0:=w5) W.heap.size rfl (.tmp 67) (.tmp 69) 69 57 (.slice none 0 0) 24 rfl Tryz.underlying69 kr_ rfl (by decide) (by decide) _ _ (lastU k0) [.slice (some ⟨wq.heap.size,0,none⟩) k0 k0] _ _ rfl rfl HM1.out HOK.out (fun _ h=> .inr (.inr h)) HS1.out (Zw _ _) HSW.out ?aL ?_;(case aL=>have:=HLZ.out;omega));intro v2 w4 ho2 hb2 hg2 hat2;have HO2:=Za ho2;have HB4:=Za hb2;have HG2:=Za (show w5.grownBy w4 u8.ownBlock from hg2);have HA2:=Za (show v2.ownBlock=u8.ownBlock\/ ∃b,v2.ownBlock=some b/\w5.heap.size<=b from hat2);clear ho2 hb2 hg2 hat2)
  go_ret2;refine ⟨_,_,rfl,by rw [HX.out];exact Kd.cOz (Kd.bVz HO2.out) (fun q hq=>⟨hq.1,hq.2.2.1⟩),Fd.joined HF5.out HUO.out HG2.out,fun q hq=>hq.2,⟨HB4.out.os.trans (HB5.out.os.trans HBB.out.os),HB4.out.tape.trans (HB5.out.tape.trans HBB.out.tape),HB4.out.output.trans (HB5.out.output.trans HBB.out.output),Zt HSW.out HB4.out.size,fun i hi hg=>(HB4.out.block i hi).trans ((HB5.out.block i (Zp hi HBB.out.size)).trans (HBB.out.block i hi hg))⟩⟩
def sclRow (wb c:Int) (j:Nat) (row:List Int):List Int:=row.set j (gmul wb (row.getD j 0) c)
def sclTo (wb c:Int) (from_ j:Nat) (rows:List (List Int)) (i:Nat):List (List Int):=rows.take from_++(((rows.drop from_).take i).map (sclRow wb c j)++(rows.drop from_).drop i)
theorem sclTo_zero (wb c:Int) (from_ j:Nat) (rows:List (List Int)):sclTo wb c from_ j rows 0=rows:=by simp [sclTo]
theorem sclTo_at (wb c:Int) (from_ j:Nat) (rows:List (List Int)) (i:Nat) (row:List Int) (hf:from_<=rows.length) (h:rows[from_+i]?=some row):(sclTo wb c from_ j rows i)[from_+i]?=some row:=by
 have hi:=(Zk h).1;unfold sclTo;rw [List.getElem?_append_right (by simp;omega),List.length_take,Nat.min_eq_left hf,Nat.add_sub_cancel_left,List.getElem?_append_right (by simp;omega)];simp only [List.length_map,List.length_take,List.length_drop,List.getElem?_drop];rw [show from_+(i+(i - min i (rows.length - from_)))=from_+i by omega];exact h
theorem sclTo_step (wb c:Int) (from_ j:Nat) (rows:List (List Int)) (i:Nat) (row:List Int) (hf:from_<=rows.length) (h:rows[from_+i]?=some row):(sclTo wb c from_ j rows i).set (from_+i) (sclRow wb c j row)=sclTo wb c from_ j rows (i+1):=by
 have hi:=(Zk h).1;have h2:(rows.drop from_)[i]?=some row:=by rw [List.getElem?_drop];exact h
 obtain ⟨h3,h4⟩:=Zk h2;unfold sclTo;rw [List.set_append_right _ _ (by simp;omega),List.length_take,Nat.min_eq_left hf,Nat.add_sub_cancel_left,List.set_append_right _ _ (by simp;omega),List.length_map,List.length_take,List.length_drop,show i - min i (rows.length - from_)=0 by omega,List.drop_eq_getElem_cons h3,Zh,List.take_add_one,h2,List.map_append,List.append_assoc];rfl
theorem eSz (wb c:Int) (from_ j:Nat) (rows:List (List Int)) (i L:Nat) (h: ∀r,r∈rows->r.length=L): ∀r,r∈sclTo wb c from_ j rows i->r.length=L:=by
 intro r hr;unfold sclTo at hr;rcases List.mem_append.1 hr with hr|hr
 ·exact h r (List.mem_of_mem_take hr)
 ·rcases List.mem_append.1 hr with hr|hr
  ·obtain ⟨q,hq,rfl⟩:=List.mem_map.1 hr;simp only [sclRow,List.length_set];exact h q (List.mem_of_mem_drop (List.mem_of_mem_take hq))
  ·exact h r (List.mem_of_mem_drop (List.mem_of_mem_drop hr))
def sclF (wb c:Int) (from_ j:Nat) (rows:List (List Int)):List (List Int):=sclTo wb c from_ j rows (rows.length - from_)
theorem scale.calls (g o : Nat) (wb : Int) (S0 S : Nat -> Prop) (n co L from_ j : Nat) (c : Int) (bs : List (Nat × Nat)) (rows : List (List Int)) (W : World) (hw : wb = 8 \/ wb = 16) (hF : Fd W g wb (fpoly wb) S) (hx : ∀ k, S0 k -> S k) (hS : ∀ k, S k -> k < W.heap.size)
  (hM:Mx W o bs rows) (hSb: ∀(i b c:Nat),bs[i]?=some (b,c)->S0 b) (hn:rows.length=n) (hco:n<=co) (hnn:n<=100) (hL: ∀r,r∈rows->r.length=L) (hLL:L<=100) (hj:j<L) (hf:from_<=n) (hfn:from_<n):
  Calls Tryz.prog 115 #[.agg #[.pointer (some ⟨g,0,none⟩), .slice (some ⟨o,0,none⟩) n co], .int .i64 (from_:Int), .int .i64 (j:Int), .int .i64 c] W fun e w'=>e= .returned (.tuple #[])/\Mx w' o bs (sclF wb c from_ j rows)/\Fd w' g wb (fpoly wb) S/\BS W w' g S0:=by
 have HW:=Za hw;have HF:=Za (hF.alloc (.cells #[.pointer (some ⟨g,0,none⟩), .slice (some ⟨o,0,none⟩) n co] 146));have HX:=Za hx;have HS:=Za hS;have HM:=Za (show Mx (W.alloc (.cells #[.pointer (some ⟨g,0,none⟩), .slice (some ⟨o,0,none⟩) n co] 146)) o bs (sclTo wb c from_ j rows 0) by rw [sclTo_zero];exact hM.alloc _);have HSB:=Za hSb;have HL:=Za hL;have HN:=Za hn;have hbx:(W.alloc (.cells #[.pointer (some ⟨g,0,none⟩), .slice (some ⟨o,0,none⟩) n co] 146)).heap[W.heap.size]?=some (.cells #[.pointer (some ⟨g,0,none⟩), .slice (some ⟨o,0,none⟩) n co] 146 (0,0)):=heap_alloc_new _ _;have HBX:=Za hbx;have HB:=Za (show BS W (W.alloc (.cells #[.pointer (some ⟨g,0,none⟩), .slice (some ⟨o,0,none⟩) n co] 146)) g S0 from BS.alloc (BS.refl _ _ _) _);have HGL:=Za hF.lt;have hb1:(W.alloc (.cells #[.pointer (some ⟨g,0,none⟩), .slice (some ⟨o,0,none⟩) n co] 146)).cell? ⟨W.heap.size,1,none⟩=some (.slice (some ⟨o,0,none⟩) n co):=(abz hbx 1).trans rfl
 have f1:(0:Int)<=(from_:Int):=by omega
 have f2:(from_:Int)<=(n:Int):=by omega
 have f3: ¬co=from_:=by omega
 have f3': ¬from_=co:=by omega
 obtain ⟨nl,hnl⟩: ∃nl,n - from_=nl:=⟨_,rfl⟩;have HNL:=Za hnl;have f5:from_+nl=n:=by omega
 have HF5:=Za f5;have hnl100:nl<=100:=by omega
 clear f5;have j1:(0:Int)<=(j:Int):=by omega
 have j2:(j:Int)<(L:Int):=by omega
 clear hw hF hx hS hM hSb hL hn hbx;go_enter Tryz.func115,Tryz.ntmps115;go_wp2;generalize W.alloc (.cells #[.pointer (some ⟨g,0,none⟩), .slice (some ⟨o,0,none⟩) n co] 146)=w1 at HF HM HBX HB hb1|-;obtain ⟨fb,hfb⟩: ∃fb,fb=W.heap.size:=⟨_,rfl⟩;have HFB:=Za hfb;rw [<-hfb] at HBX hb1|-;clear hfb hnl hb1
 go_loopw [15] (fun i wr=> ∃k:Nat,k<=nl/\i= .int .i64 (k:Int)/\Aside0 (Mx wr o bs (sclTo wb c from_ j rows k))/\Aside0 (Fd wr g wb (fpoly wb) S)/\Aside0 (BS W wr g S0)/\Aside0 (wr.heap[fb]?=some (.cells #[.pointer (some ⟨g,0,none⟩), .slice (some ⟨o,0,none⟩) n co] 146 (0,0)))) (fun i _=>nl - (intOf i).toNat)
 case atStart=>exact ⟨0,Nat.zero_le _,rfl,HM,HF,HB,HBX⟩
 clear HM HF HB HBX;obtain ⟨k,hk,rfl,HM,HF,HB,HBX⟩:=hrel;by_cases hlt:k<nl
 ·obtain ⟨row,hrow⟩: ∃r,rows[from_+k]?=some r:=⟨_,Zf (by have:=HN.out;have:=HF5.out;omega)⟩;obtain ⟨⟨bi,ci⟩,hbi⟩: ∃q,bs[from_+k]?=some q:=⟨_,Zf (by have h1:=HM.out.len;have h2:=(Zk (sclTo_at wb c from_ j rows k row (by rw [HN.out];omega) hrow)).1;omega)⟩;have hat:=sclTo_at wb c from_ j rows k row (by rw [HN.out];omega) hrow;have hrl:=HL.out row (Zo hrow);obtain ⟨x,hx⟩: ∃x,row[j]?=some x:=⟨_,Zf (by omega)⟩;have hco1:wr.cell? ⟨o,from_+k,none⟩=some (.slice (some ⟨bi,0,none⟩) L ci):=by rw [HM.out.cAz hbi hat,hrl]
  have hci:wr.cell? ⟨bi,j,none⟩=some (.int .i64 x):=HM.out.cWz hbi hat hx;have hfi:=HM.out.froz_i hbi j;have hb0:wr.cell? ⟨fb,0,none⟩=some (.pointer (some ⟨g,0,none⟩)):=(abz HBX.out 0).trans rfl;obtain ⟨gcs,hgcs⟩:=Fd.cells HF.out;have hng:=HM.out.ne_g hgcs;have HNG:=Za hng;have HBI:=Za hbi;have HAT:=Za hat
  have HST:=Za (show (sclTo wb c from_ j rows k).set (from_+k) (row.set j (gmul wb x c))=sclTo wb c from_ j rows (k+1) by
   rw [<-sclTo_step wb c from_ j rows k row (by rw [HN.out];omega) hrow];unfold sclRow
   rw [Zm,hx];rfl)
  have HFBI:=Za (show fb≠bi from fun e=>by
   have h1:=HX.out _ (HSB.out _ _ _ hbi);have h2:=HS.out _ h1;have h3:=HFB.out
   omega)
  have HMU:=Za (cHz.calls g S wb x c wr.drew HW.out HF.out.drew (fun k hk=>Zp (HS.out k hk) HB.out.size));have HCI:=Za (show∀w3,BB wr.drew w3 g->w3.cell? ⟨bi,j,none⟩=some (.int .i64 x)/\w3.frozen? ⟨bi,j,none⟩=false from fun w3 h=>⟨cxz h (a:=wr.drew) hci (hng.2 _ _ _ hbi),froz_bb h (a:=wr.drew) (p:=⟨bi,j,none⟩) (HM.out.lt_i hbi) hfi (hng.2 _ _ _ hbi)⟩);have k1:(0:Int)<=(k:Int):=by omega
  have k2:(k:Int)<(nl:Int):=by omega
  clear hrow hbi hat hrl hx hfi hgcs hng
  go_wp2_with fail
  refine bPz (n:=12) (S:=fun w'=>w'.cell? ⟨fb,0,none⟩=some (.pointer (some ⟨g,0,none⟩))/\w'.cell? ⟨bi,j,none⟩=some (.int .i64 x)) (ds:= [9,11]) (bA 12 0) kr_ rfl rfl ⟨hb0,hci⟩ (fun hHeld=> ?_);refine pu_ 0 19 1 ?_;refine pu_ 1 20 3 ?_;refine pu_ 2 21 7 ?_;refine pu_ 4 23 23 ?_;refine pu_ 5 24 55 ?_;refine pu_ 6 25 119 ?_;refine pu_ 8 27 375 ?_;refine tk_ 3 22 383 hHeld ?_;refine tk_ 7 26 511 hHeld ?_;refine last_ (i:=9) (N:=some 28) (bA 12 1023) rfl rfl kr_ (by decide) (fun K hK=> ?_);refine goes_ Tryz.func103 kr_ rfl #[.pointer (some ⟨g,0,none⟩), .int .i64 x, .int .i64 c] (by rfl) rfl rfl am_ ?_
  with_reducible refine (HMU.out).mono ?_
  rintro e w3 ⟨rfl,q1,q2⟩;refine ⟨_,rfl,?_⟩;obtain ⟨r1,r2⟩:=HCI.out w3 q2;have Q1:=Za q1;have Q3:=Za (show BB wr w3 g from ⟨q2.os,q2.tape,q2.output,q2.size,q2.block⟩);clear q1 q2;refine hK.out _ _ ?_;clear hK K;refine norm_ (a':= ?_) ?_ ?_;rotate_left
  ·show Act.put _ (some 28) _=_;simp only [Act.put,Zg,Zh,Zi,i64_w,i32_w];rfl
  refine pu_ 10 29 2047 ?_;refine last_ (i:=11) (N:=none) (bA 12 4095) rfl rfl kr_ (by decide) (fun K hK=> ?_);refine skip_ (w1:= ?_) (by rfl) rfl ?_ ?_;rotate_left
  ·go_simp;rfl
  refine hK.out _ _ ?_;clear hK K;refine done_ kr_ ?_;have HM2:=Za ((HM.out.bb HNG.out Q3.out).set (j:=j) HBI.out HAT.out (gmul wb x c));rw [HST.out] at HM2;have HF2:=Za (Q1.out.set (q:=⟨bi,j,none⟩) (HX.out _ (HSB.out _ _ _ HBI.out)) (.int .i64 (gmul wb x c)));have HB2:=Za ((HB.out.trans (BS.of_bb Q3.out)).set (p:=⟨bi,j,none⟩) (.inl (HSB.out _ _ _ HBI.out)) (.int .i64 (gmul wb x c)));have HBX2:=Za (bFz ((Q3.out.block fb (a8z HBX.out) (by have:=HFB.out;have:=HGL.out;omega)).trans HBX.out) (show fb≠(⟨bi,j,none⟩:Addr).block from HFBI.out) (.int .i64 (gmul wb x c)));go_wp2;go_roundw
  case rel=>exact ⟨k+1,by omega,by go_num,HM2,HF2,HB2,HBX2⟩
  case measure=>have:=HF5.out;simp [intOf];omega
 ·obtain rfl:k=nl:=by omega
  have HE:=Za (show Mx wr o bs (sclF wb c from_ j rows) by unfold sclF;rw [HN.out,HNL.out];exact HM.out);go_wp2
  go_end0
  exact ⟨rfl,HE.out,HF.out,HB.out⟩
def swpRow (i j:Nat) (x:List Int):List Int:=(x.set i (x.getD j 0)).set j (x.getD i 0)
def swpTo (i j:Nat) (rows:List (List Int)) (k:Nat):List (List Int):=(rows.take k).map (swpRow i j)++rows.drop k
def pivJ (i:Nat):List Int->Nat->Option Nat
 | [],_=>none
 |c::cs,j=>if j<i\/c=0 then pivJ i cs (j+1) else some j
def swpF (i:Nat) (rows:List (List Int)):List (List Int):=match pivJ i (rows.getD i []) 0 with
 |none=>rows
 |some j=>rows.map (swpRow i j)
def stepF (wb:Int) (i:Nat) (rows:List (List Int)):List (List Int):=
 let r1:=swpF i rows
 let r2:=sclF wb (ginv wb ((r1.getD i []).getD i 0)) 0 i r1
 cutF wb i (r2.getD i []) 0 r2
theorem swpTo_zero (i j:Nat) (rows:List (List Int)):swpTo i j rows 0=rows:=by simp [swpTo]
theorem swpTo_full (i j:Nat) (rows:List (List Int)):swpTo i j rows rows.length=rows.map (swpRow i j):=by simp [swpTo]
theorem swpTo_at (i j:Nat) (rows:List (List Int)) (k:Nat) (x:List Int) (h:rows[k]?=some x):(swpTo i j rows k)[k]?=some x:=by
 have hi:=(Zk h).1;unfold swpTo;rw [List.getElem?_append_right (by simp;omega)];simp only [List.length_map,List.length_take,List.getElem?_drop];rw [show k+(k - min k rows.length)=k by omega];exact h
theorem swpTo_step (i j:Nat) (rows:List (List Int)) (k:Nat) (x:List Int) (h:rows[k]?=some x):(swpTo i j rows k).set k (swpRow i j x)=swpTo i j rows (k+1):=by
 have hi:=(Zk h).1;obtain ⟨_,e⟩:=Zk h;unfold swpTo;rw [List.set_append_right _ _ (by simp;omega),List.length_map,List.length_take,show k - min k rows.length=0 by omega,List.drop_eq_getElem_cons hi,Zh,List.take_add_one,h,List.map_append,List.append_assoc];rfl
theorem swpRow_length (i j:Nat) (x:List Int):(swpRow i j x).length=x.length:=by simp [swpRow]
theorem pivJ_drop (i:Nat) (row:List Int) (j:Nat) (c:Int) (hc:row[j]?=some c):pivJ i (row.drop j) j=if j<i\/c=0 then pivJ i (row.drop (j+1)) (j+1) else some j:=by
 obtain ⟨h1,h2⟩:=Zk hc;rw [List.drop_eq_getElem_cons h1,h2,pivJ]
theorem swpF_each {i:Nat} {rows:List (List Int)} {L:Nat} (h: ∀r,r∈rows->r.length=L):(∀r,r∈swpF i rows->r.length=L)/\(swpF i rows).length=rows.length:=by
 unfold swpF;split
 ·exact ⟨h,rfl⟩
 ·refine ⟨fun r hr=> ?_,by simp⟩;obtain ⟨q,hq,rfl⟩:=List.mem_map.1 hr;rw [swpRow_length];exact h q hq
theorem jstep.calls (g o : Nat) (wb : Int) (S0 S : Nat -> Prop) (n co L i : Nat) (bs : List (Nat × Nat)) (rows : List (List Int)) (row : List Int) (W : World) (hw : wb = 8 \/ wb = 16) (hF : Fd W g wb (fpoly wb) S) (hx : ∀ k, S0 k -> S k) (hS : ∀ k, S k -> k < W.heap.size)
  (hM:Mx W o bs rows) (hSb: ∀(i b c:Nat),bs[i]?=some (b,c)->S0 b) (hn:rows.length=n) (hco:n<=co) (hnn:n<=100) (hL: ∀r,r∈rows->r.length=L) (hLL:L<=100) (hL1:1<=L) (hi:i<n) (hiL:i<L) (hrow:rows[i]?=some row):
  Calls Tryz.prog 113 #[.agg #[.pointer (some ⟨g,0,none⟩), .slice (some ⟨o,0,none⟩) n co], .int .i64 (i:Int)] W fun e w'=>e= .returned (.tuple #[])/\Mx w' o bs (stepF wb i rows)/\Fd w' g wb (fpoly wb) S/\BS W w' g S0:=by
 have HW:=Za hw;have HF:=Za (hF.alloc (.cells #[.pointer (some ⟨g,0,none⟩), .slice (some ⟨o,0,none⟩) n co] 146));have HX:=Za hx;have HS:=Za hS;have HM:=Za (hM.alloc (.cells #[.pointer (some ⟨g,0,none⟩), .slice (some ⟨o,0,none⟩) n co] 146));have HSB:=Za hSb;have HL:=Za hL;have HN:=Za hn;have HROW:=Za hrow;have hrl:=hL row (Zo hrow);have HRL:=Za hrl;obtain ⟨⟨bi,ci⟩,hbi⟩: ∃q,bs[i]?=some q:=⟨_,Zf (by have:=hM.len;omega)⟩;have HBI:=Za hbi;have hbx:(W.alloc (.cells #[.pointer (some ⟨g,0,none⟩), .slice (some ⟨o,0,none⟩) n co] 146)).heap[W.heap.size]?=some (.cells #[.pointer (some ⟨g,0,none⟩), .slice (some ⟨o,0,none⟩) n co] 146 (0,0)):=heap_alloc_new _ _;have HBX:=Za hbx;have HB:=Za (show BS W (W.alloc (.cells #[.pointer (some ⟨g,0,none⟩), .slice (some ⟨o,0,none⟩) n co] 146)) g S0 from BS.alloc (BS.refl _ _ _) _);have HGL:=Za hF.lt;have HOL:=Za hM.lt_o;have hb1:(W.alloc (.cells #[.pointer (some ⟨g,0,none⟩), .slice (some ⟨o,0,none⟩) n co] 146)).cell? ⟨W.heap.size,1,none⟩=some (.slice (some ⟨o,0,none⟩) n co):=(abz hbx 1).trans rfl
 have hoi:(W.alloc (.cells #[.pointer (some ⟨g,0,none⟩), .slice (some ⟨o,0,none⟩) n co] 146)).cell? ⟨o,i,none⟩=some (.slice (some ⟨bi,0,none⟩) L ci):=by rw [HM.out.cAz hbi hrow,hrl]
 have i1:(0:Int)<=(i:Int):=by omega
 have i2:(i:Int)<(n:Int):=by omega
 have i3:(i:Int)<(L:Int):=by omega
 obtain ⟨res,hres⟩: ∃res,stepF wb i rows=res:=⟨_,rfl⟩;have HRES:=Za hres;rw [hres]
 have HPV:=Za (show swpF i rows=(match pivJ i (row.drop 0) 0 with |none=>rows|some j=>rows.map (swpRow i j)) by
  unfold swpF
  rw [Zm,hrow];rfl)
 clear hw hF hx hS hM hSb hL hn hrow hrl hbi hbx hres;go_enter Tryz.func113,Tryz.ntmps113
 go_upto_block 0 with fail
 generalize W.alloc (.cells #[.pointer (some ⟨g,0,none⟩), .slice (some ⟨o,0,none⟩) n co] 146)=w1 at HF HM HBX HB hb1 hoi|-;obtain ⟨fb,hfb⟩: ∃fb,fb=W.heap.size:=⟨_,rfl⟩;have HFB:=Za hfb;rw [<-hfb] at HBX hb1|-;clear hfb
 go_cut [] from 4 (fun wc=>Aside0 (Mx wc o bs (swpF i rows))/\Aside0 (Fd wc g wb (fpoly wb) S)/\Aside0 (BS W wc g S0)/\Aside0 (wc.heap[fb]?=some (.cells #[.pointer (some ⟨g,0,none⟩), .slice (some ⟨o,0,none⟩) n co] 146 (0,0))))
 case rest=>
  obtain ⟨HM2,HF2,HB2,HBX2⟩:=hcut;clear HF HM HB HBX hb1 hoi HPV;have HE:=Za (swpF_each (i:=i) HL.out);have HRES2:=HRES.out;unfold stepF at HRES2;have HRS:=Za HRES2;clear HRES2 HRES;generalize swpF i rows=r1 at HM2 HE HRS;obtain ⟨row1,hr1⟩: ∃r,r1[i]?=some r:=⟨_,Zf (by have:=HE.out.2;have:=HN.out;omega)⟩;have hl1:=HE.out.1 row1 (Zo hr1);obtain ⟨p,hp⟩: ∃p,row1[i]?=some p:=⟨_,Zf (by omega)⟩;have hc0:wc.cell? ⟨fb,0,none⟩=some (.pointer (some ⟨g,0,none⟩)):=(abz HBX2.out 0).trans rfl;have hc1:wc.cell? ⟨fb,1,none⟩=some (.slice (some ⟨o,0,none⟩) n co):=(abz HBX2.out 1).trans rfl;have hc2:wc.cell? ⟨o,i,none⟩=some (.slice (some ⟨bi,0,none⟩) L ci):=by rw [HM2.out.cAz HBI.out hr1,hl1]
  have hc3:wc.cell? ⟨bi,i,none⟩=some (.int .i64 p):=HM2.out.cWz HBI.out hr1 hp;have HIV:=Za (gf_Inv.calls g S wb p wc.drew HW.out HF2.out.drew (fun q hq=>Zp (HS.out q hq) HB2.out.size))
  have HPR:=Za (show (r1.getD i []).getD i 0=p by
   have e1:r1.getD i [] =row1:=by rw [Zm,hr1];rfl
   rw [e1,Zm,hp];rfl)
  clear hr1 hl1 hp
  go_wp2_with fail
  refine bPz (n:=16) (S:=fun w'=>w'.cell? ⟨fb,0,none⟩=some (.pointer (some ⟨g,0,none⟩))/\w'.cell? ⟨fb,1,none⟩=some (.slice (some ⟨o,0,none⟩) n co)/\w'.cell? ⟨o,i,none⟩=some (.slice (some ⟨bi,0,none⟩) L ci)/\w'.cell? ⟨bi,i,none⟩=some (.int .i64 p)) (ds:= [10]) (bA 16 0) kr_ rfl rfl ⟨hc0,hc1,hc2,hc3⟩ (fun hHeld=> ?_);refine pu_ 0 52 1 ?_;refine pu_ 2 54 5 ?_;refine pu_ 4 56 21 ?_;refine pu_ 7 59 149 ?_;refine tk_ 1 53 151 hHeld ?_;refine tk_ 3 55 159 hHeld ?_;refine pu_ 5 57 191 ?_;refine tk_ 6 58 255 hHeld ?_;refine pu_ 8 60 511 ?_;refine tk_ 9 61 1023 hHeld ?_;refine last_ (i:=10) (N:=some 62) (bA 16 2047) rfl rfl kr_ (by decide) (fun K hK=> ?_);refine goes_ Tryz.func114 kr_ rfl #[.pointer (some ⟨g,0,none⟩), .int .i64 p] (by rfl) rfl rfl am_ ?_
  with_reducible refine (HIV.out).mono ?_
  rintro e w3 ⟨rfl,q1,q2⟩;refine ⟨_,rfl,?_⟩;have Q1:=Za q1;have Q3:=Za (show BB wc w3 g from ⟨q2.os,q2.tape,q2.output,q2.size,q2.block⟩);clear q1 q2;refine hK.out _ _ ?_;clear hK K;refine norm_ (a':= ?_) ?_ ?_;rotate_left
  ·show Act.put _ (some 62) _=_;simp only [Act.put,Zg,Zh,Zi,i64_w,i32_w];rfl
  refine pu_ 11 51 4095 ?_;refine pu_ 12 63 8191 ?_;refine pu_ 13 64 16383 ?_;refine pu_ 14 8 32767 ?_;refine pu_ 15 9 65535 ?_;refine done_ kr_ ?_;have hng:=HM2.out.ne_g (Fd.cells HF2.out).choose_spec;have HM3:=Za (HM2.out.bb hng Q3.out);have HB3:=Za (HB2.out.trans (BS.of_bb Q3.out));have hfg:fb≠g:=by have:=HFB.out;have:=HGL.out;omega
  have HBX3:=Za ((Q3.out.block fb (a8z HBX2.out) hfg).trans HBX2.out);have hbx30:w3.cell? ⟨fb,0,none⟩=some (.pointer (some ⟨g,0,none⟩)):=(abz HBX3.out 0).trans rfl;have hbx31:w3.cell? ⟨fb,1,none⟩=some (.slice (some ⟨o,0,none⟩) n co):=(abz HBX3.out 1).trans rfl;have HSC:=Za (scale.calls g o wb S0 S n co L 0 i (ginv wb p) bs r1 w3 HW.out Q1.out HX.out (fun q hq=>Zp (HS.out q hq) HB3.out.size) HM3.out HSB.out (HE.out.2.trans HN.out) hco hnn HE.out.1 hLL hiL (Nat.zero_le _) (by omega));clear hng;have HFG:=Za hfg;clear hfg
  go_wp2_with fail
  refine HSC.out.mono ?_;rintro e w5 ⟨rfl,m5,f5,b5⟩;have HB5:=Za (HB3.out.trans b5);have HBX5:=Za (b5.blk HBX3.out HFG.out (fun hs=>by have h1:=HS.out _ (HX.out _ hs);have h2:=HFB.out;omega));have hbx50:w5.cell? ⟨fb,0,none⟩=some (.pointer (some ⟨g,0,none⟩)):=(abz HBX5.out 0).trans rfl;have hbx51:w5.cell? ⟨fb,1,none⟩=some (.slice (some ⟨o,0,none⟩) n co):=(abz HBX5.out 1).trans rfl
  have hl2:(sclF wb (ginv wb p) 0 i r1).length=n:=by
   have:=HE.out.2;have:=HN.out;simp [sclF,sclTo];omega
  obtain ⟨row2,hr2⟩: ∃r,(sclF wb (ginv wb p) 0 i r1)[i]?=some r:=⟨_,Zf (by omega)⟩;have HJC:=Za (jclear.calls g o wb S0 S n co L i bs _ row2 w5 HW.out f5 HX.out (fun q hq=>Zp (HS.out q hq) HB5.out.size) m5 HSB.out hl2 hco hnn (eSz _ _ _ _ _ _ _ HE.out.1) hLL hL1 (by omega) hiL hr2)
  have HRF:=Za (show cutF wb i row2 0 (sclF wb (ginv wb p) 0 i r1)=res by
   rw [<-HRS.out];simp only [HPR.out]
   rw [Zm,hr2];rfl)
  rw [HRF.out] at HJC;clear m5 f5 b5 hl2 hr2 hbx30 hbx31
  go_wp2_with fail
  refine HJC.out.mono ?_;rintro e w6 ⟨rfl,m6,f6,b6⟩;have M6:=Za m6;have F6:=Za f6;have B6:=Za b6;clear m6 f6 b6;go_wp2
  go_end0
  exact ⟨rfl,M6.out,F6.out,HB5.out.trans B6.out⟩
 go_wp2
 go_loopw [16] (fun jv wr=> ∃j:Nat,j<=L/\jv= .int .i64 (j:Int)/\Aside0 (swpF i rows=(match pivJ i (row.drop j) j with |none=>rows|some j=>rows.map (swpRow i j)))/\wr=w1) (fun jv _=>L - (intOf jv).toNat)
 case atStart=>exact ⟨0,Nat.zero_le _,rfl,HPV,rfl⟩
 clear HPV;obtain ⟨j,hj,rfl,HPV,rfl⟩:=hrel;by_cases hlt:j<L
 ·obtain ⟨c,hc⟩: ∃c,row[j]?=some c:=⟨_,Zf (by have:=HRL.out;omega)⟩;have hcj:wr.cell? ⟨bi,j,none⟩=some (.int .i64 c):=HM.out.cWz HBI.out HROW.out hc;have hpd:=pivJ_drop i row j c hc;have j1:(0:Int)<=(j:Int):=by omega
  have j2:(j:Int)<(L:Int):=by omega
  by_cases hsk:j<i\/c=0
  ·rw [Ya hsk] at hpd;have HP2:=Za (HPV.out.trans (by rw [hpd]));clear hpd hc HPV;by_cases hji:j<i
   ·have h1:(j:Int)<(i:Int):=by omega
    go_wp2;go_roundw
    case rel=>exact ⟨j+1,by omega,by go_num,HP2,by first|rfl|trivial⟩
    case measure=>simp [intOf];omega
   ·obtain rfl:c=0:=hsk.resolve_left hji;have h1: ¬(j:Int)<(i:Int):=by omega
    go_wp2;go_roundw
    case rel=>exact ⟨j+1,by omega,by go_num,HP2,by first|rfl|trivial⟩
    case measure=>simp [intOf];omega
  ·rw [Yb hsk] at hpd;have HSW:=Za (show swpF i rows=rows.map (swpRow i j) from HPV.out.trans (by rw [hpd]));have h1: ¬(j:Int)<(i:Int):=by omega
   have h2:(c==0)=false:=by simp;omega
   have HM0:=Za (show Mx wr o bs (swpTo i j rows 0) by rw [swpTo_zero];exact HM.out);clear hpd hc HPV hsk;go_wp2
   go_loopw [31] (fun kv w2=> ∃k:Nat,k<=n/\kv= .int .i64 (k:Int)/\Aside0 (Mx w2 o bs (swpTo i j rows k))/\Aside0 (Fd w2 g wb (fpoly wb) S)/\Aside0 (BS W w2 g S0)/\Aside0 (w2.heap[fb]?=some (.cells #[.pointer (some ⟨g,0,none⟩), .slice (some ⟨o,0,none⟩) n co] 146 (0,0)))) (fun kv _=>n - (intOf kv).toNat)
   case atStart=>exact ⟨0,Nat.zero_le _,rfl,HM0,HF,HB,HBX⟩
   clear HM0 HF HB HBX HM hb1 hoi hcj;obtain ⟨w2,rfl⟩: ∃w2,w2=wr:=⟨_,rfl⟩;obtain ⟨k,hk,rfl,HM,HF,HB,HBX⟩:=hrel;by_cases hlt2:k<n
   ·obtain ⟨x,hx⟩: ∃x,rows[k]?=some x:=⟨_,Zf (by have:=HN.out;omega)⟩;have hat:=swpTo_at i j rows k x hx;obtain ⟨⟨bk,ck⟩,hbk⟩: ∃q,bs[k]?=some q:=⟨_,Zf (by have h1:=HM.out.len;have h2:=(Zk hat).1;omega)⟩;have hxl:=HL.out x (Zo hx);obtain ⟨y,hy⟩: ∃y,x[j]?=some y:=⟨_,Zf (by omega)⟩;obtain ⟨z,hz⟩: ∃z,x[i]?=some z:=⟨_,Zf (by omega)⟩;have hok:w2.cell? ⟨o,k,none⟩=some (.slice (some ⟨bk,0,none⟩) L ck):=by rw [HM.out.cAz hbk hat,hxl]
    have hcy:w2.cell? ⟨bk,j,none⟩=some (.int .i64 y):=HM.out.cWz hbk hat hy;have hcz:w2.cell? ⟨bk,i,none⟩=some (.int .i64 z):=HM.out.cWz hbk hat hz;have hfi:=HM.out.froz_i hbk i;have hfj:=HM.out.froz_i hbk j;obtain ⟨v',hcy2⟩:=cell?_setCell_some (w:=w2) (p:=⟨bk,i,none⟩) (x:= .int .i64 y) (q:=⟨bk,j,none⟩) (v:= .int .i64 y) hcy;have k1:(0:Int)<=(k:Int):=by omega
    have k2:(k:Int)<(n:Int):=by omega
    have HBK:=Za hbk;have HAT:=Za hat;have HFBK:=Za (show bk<fb by have h1:=HS.out _ (HX.out _ (HSB.out _ _ _ hbk));have h2:=HFB.out;omega)
    have HST:=Za (show (swpTo i j rows k).set k ((x.set i y).set j z)=swpTo i j rows (k+1) by
     rw [<-swpTo_step i j rows k x hx];unfold swpRow
     rw [Zm,Zm,hy,hz];rfl)
    have hself:((swpTo i j rows k).set k (x.set i y))[k]?=some (x.set i y):=List.getElem?_set_self (Zk hat).1;have HSE:=Za hself;clear hx hat hbk hxl hy hz hself
    go_wp2_with fail
    refine bPz (n:=16) (S:=fun w'=>w'.cell? ⟨bk,j,none⟩=some (.int .i64 y)/\w'.cell? ⟨bk,i,none⟩=some (.int .i64 z)) (ds:= [13,15]) (bA 16 0) kr_ rfl rfl ⟨hcy,hcz⟩ (fun hHeld=> ?_);refine pu_ 0 35 1 ?_;refine pu_ 1 36 3 ?_;refine pu_ 2 37 7 ?_;refine pu_ 3 38 15 ?_;refine pu_ 4 39 31 ?_;refine pu_ 5 40 63 ?_;refine pu_ 6 41 127 ?_;refine pu_ 8 43 383 ?_;refine pu_ 9 44 895 ?_;refine pu_ 10 45 1919 ?_;refine tk_ 7 42 2047 hHeld ?_;refine tk_ 11 46 4095 hHeld ?_;refine pu_ 12 47 8191 ?_;refine last_ (i:=13) (N:=none) (bA 16 16383) rfl rfl kr_ (by decide) (fun K hK=> ?_);refine skip_ (w1:= ?_) (by rfl) rfl ?_ ?_;rotate_left
    ·go_simp;rfl
    refine hK.out _ _ ?_;clear hK K;refine pu_ 14 48 32767 ?_;refine last_ (i:=15) (N:=none) (bA 16 65535) rfl rfl kr_ (by decide) (fun K hK=> ?_);refine skip_ (w1:= ?_) (by rfl) rfl ?_ ?_;rotate_left
    ·go_simp;rfl
    refine hK.out _ _ ?_;clear hK K;refine done_ kr_ ?_;have HM2:=Za ((HM.out.drew.set (j:=i) HBK.out HAT.out y).set (j:=j) HBK.out HSE.out z);rw [List.set_set,HST.out] at HM2;have HF2:=Za ((HF.out.drew.set (q:=⟨bk,i,none⟩) (HX.out _ (HSB.out _ _ _ HBK.out)) (.int .i64 y)).set (q:=⟨bk,j,none⟩) (HX.out _ (HSB.out _ _ _ HBK.out)) (.int .i64 z));have HB2:=Za ((HB.out.drew.set (p:=⟨bk,i,none⟩) (.inl (HSB.out _ _ _ HBK.out)) (.int .i64 y)).set (p:=⟨bk,j,none⟩) (.inl (HSB.out _ _ _ HBK.out)) (.int .i64 z));have hfk:fb≠bk:=by have:=HFBK.out;omega
    have HBX2:=Za (bFz (bFz (ccz HBX.out) (show fb≠(⟨bk,i,none⟩:Addr).block from hfk) (.int .i64 y)) (show fb≠(⟨bk,j,none⟩:Addr).block from hfk) (.int .i64 z));go_wp2;go_roundw
    case rel=>exact ⟨k+1,by omega,by go_num,HM2,HF2,HB2,HBX2⟩
    case measure=>simp [intOf];omega
   ·obtain rfl:k=n:=by omega
    have HME:=Za (show Mx w2 o bs (swpF i rows) by
     have h:=HM.out
     rw [<-HN.out,swpTo_full, <-HSW.out] at h;exact h)
    go_wp2
    go_meet
    case rel=>exact ⟨HME,HF,HB,HBX⟩
 ·obtain rfl:j=L:=by omega
  have HE:=Za (show swpF i rows=rows by
   have h:=HPV.out;rw [List.drop_of_length_le (by rw [HRL.out];exact Zv _),pivJ] at h
   exact h)
  go_wp2
  go_meet
  case rel=>exact ⟨⟨by rw [HE.out];exact HM.out⟩,HF,HB,HBX⟩
end Go.Proofs.Xc
end
